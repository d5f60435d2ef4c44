/- Part 6. -/
import Derived.Test.YtebiphhfkdbpfaaGreatDoorC05
import Derived.Scope
set_option linter.unusedVariables false
set_option maxRecDepth 100000
set_option maxHeartbeats 40000000
namespace Go.Wk
open Go.RowKit
theorem dnbR{P:Program}{n d ty:Nat}{al:AL}{w:World}{ops:Array Oper}{Q:Exit->Act->World->Prop}{drest:List (Nat×Oper)}{pos:String}{aft:Array Edge}{tt:TT}[h:Tab P tt]{t t2:TypeId}{k:TK}{x y:Operand}{p q:Bool}(kk:WD P n ops Q drest ((d,.bool (!(p == q)))::al) w)(ht:tk tt t=some k:=by rfl)(hk:k.desc=.bool:=by rfl)(hx:ev al x=some (.bool p):=by rfl)(hy:ev al y=some (.bool q):=by rfl)(hd:Nat.blt d n=true:=by rfl):
  WD P n ops Q ((0,⟨some d,.binOp .neq t x y t2,ty,pos,aft,none⟩)::drest) al w:=dy (λw' _ a i=>Qfq h.ok ht hk i hx hy (some d) w') hd kk
end Go.Wk
namespace Go.Proofs.YtebiphhfkdbpfaaGreatDoor
open Go.RowKit Pl Go.Wk
attribute [local irreducible] WC WL QX WD WDB WP WN WG WH
variable {B b2 n:Nat}{N N':Nat->Prop}{p q:PR}{u v:Value}{w:World}
theorem bldR2(b:Bool)(A:Option Addr)(m c:Nat)(w:World): (Instr.build 58 #[(0,.bool b),(1,.slice A m c)]).run Tryz.prog w=.ok (.agg #[.bool b,.slice A m c,.slice none 0 0]) w:=kr
theorem bldR1(A:Option Addr)(m c:Nat)(w:World): (Instr.build 58 #[(1,.slice A m c)]).run Tryz.prog w=.ok (.agg #[.bool false,.slice A m c,.slice none 0 0]) w:=kr
theorem RtX.sl{N:Nat->Prop}{w:World}{v:Value}{q:PR}(h:RtX N w v q): ∃ A c B d,v=.agg #[.bool q.neg,.slice A (Jj q.num).length c,.slice B (Jj q.den).length d]/\NatX N w (.slice A (Jj q.num).length c) q.num/\NatX N w (.slice B (Jj q.den).length d) q.den:=by
 obtain⟨x,y,rfl,j,i⟩:=h;obtain⟨A,c,rfl⟩:=j.1.sl;obtain⟨B,d,rfl⟩:=i.1.sl;exact⟨A,c,B,d,rfl,j,i⟩
theorem RtX.box{w2 w4 w5:World}(h:RtX (Ol w2) w4 v q)(hg:w4.grownBy w5 (some b2))(hb:b2<w2.heap.size)(hxw:Ext w w2): RtX (Ol w) w5 v q :=
 (h.gr (GrN.by hg λk i=>by injection i with i;subst i;exact hb)).ol hxw
theorem Qrc(z:Int)(h1:-9223372036854775808<z)(h2:z<9223372036854775808)(w:World): Ret Tryz.prog 158 [.int .i64 z] w λr w'=>NatX (Ol w) w' r z.natAbs/\Ext w w':=by
 refine Jz Tryz.func158 Tryz.ntmps158 rfl kr rfl ?_;refine ρ ?_;refine ci (λh=>?_) (λh=>?_)
 .have y:=oT h;refine ρ ?_;refine Go.Wk.kv 7 (u:=.int .u64 (z.natAbs:Int)) (congrArg (Value.int .u64) ?_) ?_
  .simp only[IntKind.wrap_u64];omega
  refine cl (Zd z.natAbs om w) ?_;rintro r w1 ⟨j,i⟩;refine ρ ?_;exact Jq ⟨j,i⟩
 have y:=oF h;refine ρ ?_;refine Go.Wk.kv 10 (u:=.int .u64 (z.natAbs:Int)) (congrArg (Value.int .u64) ?_) ?_
 .simp only[IntKind.wrap_u64];omega
 refine cl (Zd z.natAbs om w) ?_;rintro r w1 ⟨j,i⟩;refine ρ ?_;exact Jq ⟨j,i⟩
theorem Jjk(z:Int)(h1:-9223372036854775808<z)(h2:z<9223372036854775808)(w:World): Ret Tryz.prog 88 [.int .i64 z] w λr w'=>RtX (Ol w) w' r (PR.int z)/\Ext w w':=by
 have hq:PR.norm ⟨decide (z<0),z.natAbs,0⟩=PR.int z:=by
  unfold PR.norm PR.int;rw[if_pos (.inr rfl)];by_cases h:z<0
  .have:z.natAbs≠0:=om
   simp[h,this]
  simp[h]
 refine Jz Tryz.func88 Tryz.ntmps88 rfl kr rfl ?_;refine ρ ?_;refine alc Yv ?_;intro w1 b1 y O B;refine ρ ?_;refine cl (Qrc z h1 h2 w1) ?_;rintro r w2 ⟨Z,i⟩;obtain⟨A,c,rfl⟩:=Z.1.sl;refine ρ ?_;refine bld (bldR2 _ _ _ _ _) ?_;refine ρ ?_;refine cl (Vd (N:=Ol w1) (q:=⟨decide (z<0),z.natAbs,0⟩) ⟨_,_,rfl,Z,NatX.nil _⟩ (by show z.natAbs<_;omega) (show 0<4294967296 by decide)) ?_;rintro u w3 ⟨G,j⟩;rw[hq]at G;obtain⟨A',c',B',d',rfl,a2,a1⟩:=G.sl;refine ρ ?_;refine stb (cs':=[.bool (PR.int z).neg,.slice A' _ c',.slice B' _ d']) ((B.ext i).ext j) ?_ (Qz rfl rfl rfl);intro w4 U J D;refine ρ ?_;exact Vp U ⟨(G.ol i).box J B.lt y,D w ((y.trans i).trans j) O⟩
theorem Qgx(hv:NatV w v n)(hn:n<18446744073709551616): Ret Tryz.prog 108 [v] w λr w'=>RtX (Ol w) w' r (PR.norm ⟨false,n,0⟩)/\Ext w w':=by
 obtain⟨A,c,rfl⟩:=hv.sl;refine Jz Tryz.func108 Tryz.ntmps108 rfl kr rfl ?_;refine ρ ?_;refine alc Yv ?_;intro w1 b1 i G y;refine ρ ?_;refine bld (bldR1 _ _ _ _) ?_;refine ρ ?_;refine cl (Vd (N:=λ_=>False) (q:=⟨false,n,0⟩) ⟨_,_,rfl,⟨hv.ext i,λ_ _ _ _ _ h=>h⟩,NatX.nil _⟩ hn (show 0<4294967296 by decide)) ?_;rintro u w3 ⟨O,j⟩;obtain⟨A',c',B',d',rfl,Z,U⟩:=O.sl;refine ρ ?_;refine stb (cs':=[.bool (PR.norm ⟨false,n,0⟩).neg,.slice A' _ c',.slice B' _ d']) (y.ext j) ?_ (Qz rfl rfl rfl);intro w4 J D B;refine ρ ?_;exact Vp J ⟨O.box D y.lt i,B w (i.trans j) G⟩
theorem Jsg(hv:RtX N w v q)(hn:q.num<18446744073709551616)(hd:q.den<4294967296): Ret Tryz.prog 163 [v] w λr w'=>RtX (Ol w) w' r q.opp/\Ext w w':=by
 obtain⟨A,c,B,d,rfl,hA,hB⟩:=hv.sl;refine Jz Tryz.func163 Tryz.ntmps163 rfl kr rfl ?_;refine ρ ?_;refine bx ?_;intro w1 b1 J a5 y;refine ρ ?_;refine alc Yv ?_;intro w2 b2 G a1 O;have y:=y.ext G;refine ρ ?_;refine ld (y.at (i:=0) rfl) ?_;refine ρ ?_;refine ld (y.at (i:=1) rfl) ?_;refine ρ ?_;refine ld (y.at (i:=2) rfl) ?_;refine ρ ?_;refine bld (Ua _ _ _ _ _ _ _ _) ?_;refine ρ ?_;have j:=J.trans G;refine cl (Vd (N:=N) (q:=⟨!q.neg,q.num,q.den⟩) ⟨_,_,rfl,hA.ext j,hB.ext j⟩ hn hd) ?_;rintro u w3 ⟨hu,D⟩;obtain⟨A',c',B',d',rfl,a4,a3⟩:=hu.sl;refine ρ ?_;refine stb (cs':=[.bool (PR.norm ⟨!q.neg,q.num,q.den⟩).neg,.slice A' _ c',.slice B' _ d']) (O.ext D) ?_ (Qz rfl rfl rfl);intro w4 a2 Z U;refine ρ ?_;exact Vp a2 ⟨hu.box Z O.lt j,U w (j.trans D) (nL J.size a1)⟩
theorem Ga(hv:RtX N w v q)(hn:(Jj q.num).length<=1000): Ret Tryz.prog 98 [v] w λr w'=>r=.int .i64 q.sign/\Ext w w':=by
 obtain⟨A,c,B,d,rfl,G,J⟩:=hv.sl;refine Jz Tryz.func98 Tryz.ntmps98 rfl kr rfl ?_;refine ρ ?_;refine bx ?_;intro w1 O j D u;refine ρ ?_;refine ld (u.at (i:=1) rfl) ?_;refine ρ ?_;refine cl (Um (G.1.ext j) hn) ?_;rintro _ w1 ⟨rfl,rfl⟩;refine ρ ?_;refine ci (λh=>?_) (λh=>?_)
 .have h0:q.num=0:=by
   rcases Nat.eq_zero_or_pos q.num with h1|h1
   .exact h1
   have:=(Ky (x:=q.num) om).1;have:=eq_of_beq h;omega
  refine ρ ?_;exact Jq ⟨by unfold PR.sign;rw[if_pos h0],j⟩
 have h0:q.num≠0:=λe=>by rw[e]at h;simp[Jw]at h
 refine ρ ?_;refine ld (u.at (i:=0) rfl) ?_;refine ρ ?_;refine ci (λy=>?_) (λy=>?_)
 .refine ρ ?_;exact Jq ⟨by unfold PR.sign;rw[if_neg h0,if_pos y],j⟩
 refine ρ ?_;exact Jq ⟨by unfold PR.sign;rw[if_neg h0,if_neg (by rw[y];decide)],j⟩
theorem Jsh(hv:RtX N w v q)(hN:∀ k,N k->k<w.heap.size)(hn:(Jj q.den).length<=1000): Ret Tryz.prog 190 [v] w λr w'=>NatX N w' r q.dvs/\Ext w w':=by
 obtain⟨A,c,B,d,rfl,U,D⟩:=hv.sl;refine Jz Tryz.func190 Tryz.ntmps190 rfl kr rfl ?_;refine ρ ?_;refine bx ?_;intro w1 Z j O u;refine ρ ?_;refine ld (u.at (i:=2) rfl) ?_;refine ρ ?_;refine cl (Um (D.1.ext j) hn) ?_;rintro _ w1 ⟨rfl,rfl⟩;refine ρ ?_;refine ci (λh=>?_) (λh=>?_)
 .have h0:q.den=0:=by
   rcases Nat.eq_zero_or_pos q.den with h1|h1
   .exact h1
   have:=(Ky (x:=q.den) om).1;have:=eq_of_beq h;omega
  refine ρ ?_;refine cl (Zd 1 (by decide) _) ?_;rintro o w2 ⟨G,y⟩;refine ρ ?_;refine Jq ⟨?_,j.trans y⟩;unfold PR.dvs;rw[if_pos h0];exact(G.ol j).old λk J=>.inl (hN k J)
 have h0:q.den≠0:=λe=>by rw[e]at h;simp[Jw]at h
 refine ρ ?_;refine ld (u.at (i:=2) rfl) ?_;refine ρ ?_;refine Jq ⟨?_,j⟩;unfold PR.dvs;rw[if_neg h0];exact D.ext j
theorem Jyx(h:q.num<B)(h2:1<B): q.norm.num<B:=by
 unfold PR.norm;split
 .exact h
 exact Nat.lt_of_le_of_lt (Nat.div_le_self _ _) h
theorem Jyw(h:q.den<B)(h2:1<B): q.norm.den<B:=by
 unfold PR.norm;split
 .exact h2
 exact Nat.lt_of_le_of_lt (Nat.div_le_self _ _) h
def SF.rx(N:Nat->Prop)(q:PR): SF:=⟨λv w=>RtX N w v q,λh hx=>h.ext hx⟩
theorem Jfn(hv:RtX N w v p)(hu:RtX N' w u q)(h1:p.num<4294967296)(h2:p.den<4294967296)(h3:q.num<4294967296)(h4:q.den<4294967296)(h5:p.norm.den*q.norm.den<4294967296):
  Ret Tryz.prog 107 [v,u] w λr w'=>RtX (Ol w) w' r (PR.mul p q)/\Ext w w':=by
 obtain⟨A,c,B,d,rfl,hA,hB⟩:=hv.sl;obtain⟨C,e,D,f,rfl,hC,hD⟩:=hu.sl;refine Jz Tryz.func107 Tryz.ntmps107 rfl kr rfl ?_;refine ρ ?_;refine bx ?_;intro w1 b1 ah b4 a6;refine ρ ?_;refine bx ?_;intro w2 b2 a9 az a4;refine ρ ?_;refine alc Yv ?_;intro w3 b3 ag ay ap;have a5:=a6;have aq:=a4;have a6:=(a6.ext a9).ext ag;have a4:=a4.ext ag;have am:=(ah.trans a9).trans ag;refine ρ ?_;have a7:Ext w3 w3.drew:=(Ext.refl w3).drew;have af:=a6.ext a7;have ae:=a4.ext a7;have J:=am.trans a7;refine drC 14 [] [(0,0),(0,2),(1,1),(1,3),(2,4),(2,5)] kr ?_;refine ρp ?_;refine ρd ?_;refine Qb (cs:=[.bool p.neg,.slice A _ c,.slice B _ d]) (λj u hu=>af.at hu) ?_;refine ρd ?_;refine Qb (cs:=[.bool q.neg,.slice C _ e,.slice D _ f]) (λj u hu=>ae.at hu) ?_;refine ρd ?_;refine dcl (Vd (N:=N) (q:=p) ⟨_,_,rfl,hA.ext J,hB.ext J⟩ om h2) ?_;rintro x4 w4 ⟨b6,G⟩;refine⟨G,?_⟩;refine ρd ?_
 refine dcl (Vd (N:=N') (q:=q) ⟨_,_,rfl,(hC.ext J).ext G,(hD.ext J).ext G⟩ om h4) ?_;rintro y4 w5 ⟨ai,a2⟩;refine⟨a2,?_⟩;have b5:=b6.ext a2;have ai:=ai.ol G;obtain⟨A5,c5,B5,d5,rfl,bg,be⟩:=b5.sl;obtain⟨C5,e5,D5,f5,rfl,bc,ba⟩:=ai.sl;refine ρd ?_;refine Jd ?_;refine stb (cs':=[.bool p.norm.neg,.slice A5 _ c5,.slice B5 _ d5]) ((af.ext G).ext a2) ?_ (Qz rfl rfl rfl);intro w6 au hg6 ax;refine ρ ?_;refine Qf ?_;refine Jd ?_;have ar:Blk w6 b2 _ _:=((ae.ext G).ext a2).grown hg6 (λe=>by injection e with e;have:=a5.lt;omega);refine stb (cs':=[.bool q.norm.neg,.slice C5 _ e5,.slice D5 _ f5]) ar ?_ (Qz rfl rfl rfl);intro w7 O hg7 aw;refine ρ ?_;have U:Blk w7 b1 _ _:=au.grown hg7 (λe=>by injection e with e;have:=a5.lt;omega);have l1:=a6.lt;have l2:=a4.lt;have l3:=ap.lt;have Z:GrN (Ol w3.drew) w5 w7:=(GrN.by hg6 λk ek=>by injection ek with ek;subst ek;exact l1).trans (GrN.by hg7 λk ek=>by injection ek with ek;subst ek;exact l2)
 have bf:=bg.gr Z;have bd:=be.gr Z;have bb:=bc.gr Z;have b9:=ba.gr Z;have ac:Ext w w7:=aw w (ax w ((J.trans G).trans a2) b4) (nL ah.size az);have ad:Blk w7 b3 58 [.bool false,.slice none 0 0,.slice none 0 0]:=((((ap.ext a7).ext G).ext a2).grown hg6 (λe=>by injection e with e;have:=a5.lt;have:=a9.size;omega)).grown hg7 (λe=>by injection e with e;have:=aq.lt;omega);have y:Ext w7 w7.drew:=(Ext.refl w7).drew;have U:=U.ext y;have O:=O.ext y;refine dr [(0,0),(0,1),(0,2),(0,3),(0,4),(0,5),(0,6),(0,7),(0,8),(0,10),(0,11),(0,12),(0,13),(1,9),(1,14),(0,15),(1,16),(2,17)] kr ?_;refine ρd ?_;refine dld (U.at (i:=0) rfl) ?_;refine ρd ?_;refine dld (O.at (i:=0) rfl) ?_;refine ρd ?_;refine dnbR ?_;refine ρd ?_;refine dld (U.at (i:=1) rfl) ?_;refine ρd ?_;refine dld (O.at (i:=1) rfl) ?_;refine ρd ?_;refine dld (U.at (i:=2) rfl) ?_;refine ρd ?_;refine dld (O.at (i:=2) rfl) ?_;refine ρd ?_
 have n1:=Jyx h1 (by decide);have n2:=Jyw h2 (by decide);have n3:=Jyx h3 (by decide);have n4:=Jyw h4 (by decide);have hm:p.norm.num*q.norm.num<18446744073709551616:=by have:=Jxt n1 n3;omega
 refine dcl (Yr (bf.1.ext y) (bb.1.ext y) (by have:=Qa (n:=p.norm.num) om;omega) (by have:=Qa (n:=q.norm.num) om;omega)) ?_;rintro x8 w8 ⟨aj,b8,a1⟩;refine⟨a1,?_⟩;have aj:=b8.o aj;refine ρd ?_;refine dcl (Yr ((bd.1.ext y).ext a1) ((b9.1.ext y).ext a1) (by have:=Qa (n:=p.norm.den) om;omega) (by have:=Qa (n:=q.norm.den) om;omega)) ?_;rintro y9 w9 ⟨aa,b7,a8⟩;refine⟨a8,?_⟩;have aa:=(b7.o aa).ol a1;have ao:=aj.ext a8;obtain⟨E,g,rfl⟩:=ao.1.sl;obtain⟨F,g',rfl⟩:=aa.1.sl;refine ρd ?_;refine dbld (Ua _ _ _ _ _ _ _) ?_;refine ρd ?_;refine dcl (Vd (q:=⟨!(p.norm.neg == q.norm.neg),p.norm.num*q.norm.num,p.norm.den*q.norm.den⟩) ⟨_,_,rfl,ao,aa⟩ hm h5) ?_;rintro r bi ⟨hR,ab⟩;refine⟨ab,?_⟩;have e:PR.norm ⟨!(p.norm.neg == q.norm.neg),p.norm.num*q.norm.num,p.norm.den*q.norm.den⟩=PR.mul p q:=rfl;rw[e]at hR;obtain⟨A',c',B',d',rfl,_,_⟩:=hR.sl
 have a3:=((y.trans a1).trans a8).trans ab;refine ρd ?_;refine Jd ?_;refine stb (cs':=[.bool (PR.mul p q).neg,.slice A' _ c',.slice B' _ d']) (ad.ext a3) ?_ (Qz rfl rfl rfl);intro bh av an ak;refine ρ ?_;exact Vp av ⟨(hR.ol ((y.trans a1).trans a8)).box an ad.lt ac,ak w (ac.trans a3) (nL (ah.trans a9).size ay)⟩
theorem Qhb(hv:RtX N w v p)(hu:RtX N' w u q)(h1:p.num<4294967296)(h2:p.den<4294967296)(h3:q.num<4294967296)(h4:q.den<4294967296)(h5:p.norm.den*q.norm.den<4294967296)(h6:p.norm.num*q.norm.den+q.norm.num*p.norm.den<18446744073709551616):
  Ret Tryz.prog 220 [v,u] w λr w'=>RtX (Ol w) w' r (PR.add p q)/\Ext w w':=by
 obtain⟨A,c,B,d,rfl,hA,hB⟩:=hv.sl;obtain⟨C,e,D,f,rfl,hC,hD⟩:=hu.sl;refine Jz Tryz.func220 Tryz.ntmps220 rfl kr rfl ?_;refine ρ ?_;refine bx ?_;intro w1 b1 b7 bu a2;refine ρ ?_;refine bx ?_;intro w2 b2 ar bt a7;refine ρ ?_;refine alc Yv ?_;intro w3 b3 b6 bs af;have an:=a2;have bi:=a7;have a2:=(a2.ext ar).ext b6;have a7:=a7.ext b6;have bd:=(b7.trans ar).trans b6;refine ρ ?_;have aq:Ext w3 w3.drew:=(Ext.refl w3).drew;have az:=a2.ext aq;have ax:=a7.ext aq;have a6:=bd.trans aq;refine drC 14 [] [(0,0),(0,2),(1,1),(1,3),(2,4),(2,5)] kr ?_;refine ρp ?_;refine ρd ?_;refine Qb (cs:=[.bool p.neg,.slice A _ c,.slice B _ d]) (λj u hu=>az.at hu) ?_;refine ρd ?_;refine Qb (cs:=[.bool q.neg,.slice C _ e,.slice D _ f]) (λj u hu=>ax.at hu) ?_;refine ρd ?_;refine dcl (Vd (N:=N) (q:=p) ⟨_,_,rfl,hA.ext a6,hB.ext a6⟩ om h2) ?_;rintro x4 w4 ⟨c0,a4⟩;refine⟨a4,?_⟩
 refine ρd ?_;refine dcl (Vd (N:=N') (q:=q) ⟨_,_,rfl,(hC.ext a6).ext a4,(hD.ext a6).ext a4⟩ om h4) ?_;rintro y4 w5 ⟨b9,ae⟩;refine⟨ae,?_⟩;have bz:=c0.ext ae;have b9:=b9.ol a4;obtain⟨A5,c5,B5,d5,rfl,cb,c9⟩:=bz.sl;obtain⟨C5,e5,D5,f5,rfl,c8,c6⟩:=b9.sl;refine ρd ?_;refine Jd ?_;refine stb (cs':=[.bool p.norm.neg,.slice A5 _ c5,.slice B5 _ d5]) ((az.ext a4).ext ae) ?_ (Qz rfl rfl rfl);intro w6 bl hg6 br;refine ρ ?_;refine Qf ?_;refine Jd ?_;have bj:Blk w6 b2 _ _:=((ax.ext a4).ext ae).grown hg6 (λe=>by injection e with e;have:=an.lt;omega);refine stb (cs':=[.bool q.norm.neg,.slice C5 _ e5,.slice D5 _ f5]) bj ?_ (Qz rfl rfl rfl);intro w7 am hg7 bq;refine ρ ?_;have ao:Blk w7 b1 _ _:=bl.grown hg7 (λe=>by injection e with e;have:=an.lt;omega);have l1:=a2.lt;have l2:=a7.lt;have l3:=af.lt;have ad:GrN (Ol w3.drew) w5 w7:=(GrN.by hg6 λk ek=>by injection ek with ek;subst ek;exact l1).trans (GrN.by hg7 λk ek=>by injection ek with ek;subst ek;exact l2)
 have ca:=cb.gr ad;have bh:=c9.gr ad;have c7:=c8.gr ad;have bg:=c6.gr ad;have ac:Ext w w7:=bq w (br w ((a6.trans a4).trans ae) bu) (nL b7.size bt);have av:Blk w7 b3 58 [.bool false,.slice none 0 0,.slice none 0 0]:=((((af.ext aq).ext a4).ext ae).grown hg6 (λe=>by injection e with e;have:=an.lt;have:=ar.size;omega)).grown hg7 (λe=>by injection e with e;have:=bi.lt;omega);have U:Ext w7 w7.drew:=(Ext.refl w7).drew;have ay:=ao.ext U;have aw:=am.ext U;refine dr [(0,0),(0,1),(0,2),(0,3),(0,5),(0,6),(0,7),(0,8),(1,4),(1,9),(0,10),(0,11)] kr ?_;refine ρd ?_;refine dld (ay.at (i:=1) rfl) ?_;refine ρd ?_;refine dld (aw.at (i:=2) rfl) ?_;refine ρd ?_;refine dld (aw.at (i:=1) rfl) ?_;refine ρd ?_;refine dld (ay.at (i:=2) rfl) ?_;refine ρd ?_;have n1:=Jyx h1 (by decide);have n2:=Jyw h2 (by decide);have n3:=Jyx h3 (by decide);have n4:=Jyw h4 (by decide);have s1:=Qa (n:=p.norm.num) om
 have s2:=Qa (n:=p.norm.den) om;have s3:=Qa (n:=q.norm.num) om;have s4:=Qa (n:=q.norm.den) om;refine dcl (Yr (ca.1.ext U) (bg.1.ext U) om om) ?_;rintro x8 w8 ⟨ba,c4,a8⟩;refine⟨a8,?_⟩;have ba:=c4.o ba;refine ρd ?_;refine dcl (Yr ((c7.1.ext U).ext a8) ((bh.1.ext U).ext a8) om om) ?_;rintro y9 w9 ⟨b8,c2,ah⟩;refine⟨ah,?_⟩;have b8:=(c2.o b8).ol a8;have bw:=ba.ext ah;have a3:=(U.trans a8).trans ah;refine ρd ?_;refine ρ ?_;refine ld ((ao.ext a3).at (i:=2) rfl) ?_;refine ρ ?_;refine ld ((am.ext a3).at (i:=2) rfl) ?_;refine ρ ?_;refine cl (Yr (bh.1.ext a3) (bg.1.ext a3) om om) ?_;rintro z b4 ⟨hZ,c1,ab⟩;have hZ:=(c1.o hZ).ol (a8.trans ah);have hX:=bw.ext ab;have hY:=b8.ext ab;have y:=a3.trans ab;have a2:=ao.ext y;have a7:=am.ext y;have af:=av.ext y;have b5:=av.lt;have ai:=nL (b7.trans ar).size bs
 have a9:=ac.trans y;refine ρ ?_;refine ld (a2.at (i:=0) rfl) ?_;refine ρ ?_;refine ld (a7.at (i:=0) rfl) ?_;refine ρ ?_;refine eqb ?_;refine ρ ?_;obtain⟨Z,zc,rfl⟩:=hZ.1.sl;have cd:=Qa (n:=p.norm.num*q.norm.den) om;have cc:=Qa (n:=q.norm.num*p.norm.den) om;refine ci (λh=>?_) (λh=>?_)
 .have he:p.norm.neg=q.norm.neg:=eq_of_beq h;have eq:PR.norm ⟨p.norm.neg,p.norm.num*q.norm.den+q.norm.num*p.norm.den,p.norm.den*q.norm.den⟩=PR.add p q:=by unfold PR.add PR.addN;rw[if_pos he]
  have ag:Ext b4 b4.drew:=(Ext.refl b4).drew;refine ρ ?_;refine dr [(0,0),(0,1),(0,2),(0,3),(0,5),(1,4),(0,6),(1,7),(2,8)] kr ?_;refine ρd ?_;refine dld ((a2.ext ag).at (i:=0) rfl) ?_;refine ρd ?_;refine dcl (Jgk (hX.1.ext ag) (hY.1.ext ag) om om) ?_;rintro t bp ⟨hT,bb,J⟩;refine⟨J,?_⟩;have a1:=ag.trans J;have hT:=(bb.o hT).ol ((((U.trans a8).trans ah).trans ab).trans ag);obtain⟨T,tc,rfl⟩:=hT.1.sl;refine ρd ?_;refine dbld (Ua _ _ _ _ _ _ _) ?_;refine ρd ?_;refine dcl (Vd (q:=⟨p.norm.neg,p.norm.num*q.norm.den+q.norm.num*p.norm.den,p.norm.den*q.norm.den⟩) ⟨_,_,rfl,hT,(hZ.ol U).ext a1⟩ h6 h5) ?_;rintro r bo ⟨hR,aa⟩;refine⟨aa,?_⟩;rw[eq]at hR;obtain⟨A',c',B',d',rfl,_,_⟩:=hR.sl;have G:=a1.trans aa;refine ρd ?_;refine Jd ?_;refine stb (cs':=[.bool (PR.add p q).neg,.slice A' _ c',.slice B' _ d']) (af.ext G) ?_ (Qz rfl rfl rfl);intro bc bm be a5
  refine ρ ?_;exact Vp bm ⟨(hR.ol (y.trans a1)).box be b5 ac,a5 w (a9.trans G) ai⟩
 have he:p.norm.neg≠q.norm.neg:=λe=>by rw[e]at h;simp at h
 refine ρ ?_;refine cl (Qjh hX.1 hY.1 om) ?_;rintro _ bp ⟨⟨t,rfl,hT,bb⟩,J⟩;have hT:=(bb.o hT).ol y;refine ρ ?_;by_cases hlt:p.norm.num*q.norm.den<q.norm.num*p.norm.den
 .rw[if_pos hlt];have eq:PR.norm ⟨q.norm.neg,q.norm.num*p.norm.den-p.norm.num*q.norm.den,p.norm.den*q.norm.den⟩=PR.add p q:=by unfold PR.add PR.addN;rw[if_neg he,if_neg om]
  refine ρ ?_;refine cl (Qjh (hY.1.ext J) (hX.1.ext J) om) ?_;rintro _ bo ⟨⟨t2,rfl,au,bf⟩,aa⟩;have au:=(bf.o au).ol (y.trans J);obtain⟨T,tc,rfl⟩:=au.1.sl;have G:=J.trans aa;refine ρ ?_;refine ld ((a7.ext G).at (i:=0) rfl) ?_;refine ρ ?_;refine bld (Ua _ _ _ _ _ _ _ _) ?_;refine ρ ?_;refine cl (Vd (q:=⟨q.norm.neg,q.norm.num*p.norm.den-p.norm.num*q.norm.den,p.norm.den*q.norm.den⟩) ⟨_,_,rfl,au,(hZ.ol U).ext G⟩ (by show q.norm.num*p.norm.den-_<_;omega) h5) ?_;rintro r bc ⟨hR,a5⟩;rw[eq]at hR;obtain⟨A',c',B',d',rfl,_,_⟩:=hR.sl;have O:=G.trans a5;refine ρ ?_;refine stb (cs':=[.bool (PR.add p q).neg,.slice A' _ c',.slice B' _ d']) (af.ext O) ?_ (Qz rfl rfl rfl);intro bn ap ak aj;refine ρ ?_;exact Vp ap ⟨(hR.ol (y.trans G)).box ak b5 ac,aj w (a9.trans O) ai⟩
 rw[if_neg hlt];have eq:PR.norm ⟨p.norm.neg,p.norm.num*q.norm.den-q.norm.num*p.norm.den,p.norm.den*q.norm.den⟩=PR.add p q:=by unfold PR.add PR.addN;rw[if_neg he,if_pos om]
 obtain⟨T,tc,rfl⟩:=hT.1.sl;refine ρ ?_;refine ld ((a2.ext J).at (i:=0) rfl) ?_;refine ρ ?_;refine bld (Ua _ _ _ _ _ _ _ _) ?_;refine ρ ?_;refine cl (Vd (q:=⟨p.norm.neg,p.norm.num*q.norm.den-q.norm.num*p.norm.den,p.norm.den*q.norm.den⟩) ⟨_,_,rfl,hT,(hZ.ol U).ext J⟩ (by show p.norm.num*q.norm.den-_<_;omega) h5) ?_;rintro r bc ⟨hR,a5⟩;rw[eq]at hR;obtain⟨A',c',B',d',rfl,_,_⟩:=hR.sl;have O:=J.trans a5;refine ρ ?_;refine stb (cs':=[.bool (PR.add p q).neg,.slice A' _ c',.slice B' _ d']) (af.ext O) ?_ (Qz rfl rfl rfl);intro bn ap ak aj;refine ρ ?_;exact Vp ap ⟨(hR.ol (y.trans J)).box ak b5 ac,aj w (a9.trans O) ai⟩
open Go.RowKit Pl Go.Wk
variable {N N':Nat->Prop}{p q:PR}{u v:Value}{w:World}
theorem Iz(q:PR): q.norm.num<=q.num:=by
 unfold PR.norm;split
 .exact Nat.le_refl _
 exact Nat.div_le_self _ _
theorem Uq(h:q.den≠0): q.norm.den<=q.den:=by
 unfold PR.norm;split
 .show 1<=q.den;omega
 exact Nat.div_le_self _ _
structure Sm(p q:PR): Prop where
 p0:p.den≠0
 q0:q.den≠0
 pn:p.num<4294967296
 qn:q.num<4294967296
 d:p.den*q.den<4294967296
 s:p.num*q.den+q.num*p.den<18446744073709551616
theorem Sm.pd(h:Sm p q): p.den<4294967296:=Nat.lt_of_le_of_lt (Nat.le_mul_of_pos_right _ (Nat.pos_of_ne_zero h.q0)) h.d
theorem Sm.qd(h:Sm p q): q.den<4294967296:=Nat.lt_of_le_of_lt (Nat.le_mul_of_pos_left _ (Nat.pos_of_ne_zero h.p0)) h.d
theorem Sm.le{p' q':PR}(h:Sm p q)(h1:p'.num<=p.num)(h2:p'.den<=p.den)(h3:q'.num<=q.num)(h4:q'.den<=q.den)(h5:p'.den≠0)(h6:q'.den≠0): Sm p' q':=by
 have a:=h.pn;have b:=h.qn;refine⟨h5,h6,om,om,Nat.lt_of_le_of_lt (Nat.mul_le_mul h2 h4) h.d,Nat.lt_of_le_of_lt (Nat.add_le_add (Nat.mul_le_mul h1 h4) (Nat.mul_le_mul h3 h2)) h.s⟩
theorem Sm.nrm(h:Sm p q): Sm p.norm q.norm:=h.le (Iz _) (Uq h.p0) (Iz _) (Uq h.q0) (PR.norm_val h.p0).2 (PR.norm_val h.q0).2
theorem Qgw(hv:RtX N w v p)(hu:RtX N' w u q)(h:Sm p q):
  Ret Tryz.prog 192 [v,u] w λr w'=>RtX (Ol w) w' r (PR.sub p q)/\Ext w w':=by
 have ho:Sm p q.opp:=h.le (Nat.le_refl _) (Nat.le_refl _) (Iz ⟨!q.neg,q.num,q.den⟩) (Uq (q:=⟨!q.neg,q.num,q.den⟩) h.q0) h.p0 (PR.opp_val h.q0).2;have hn:=ho.nrm;have aa:=h.pd;have a8:=h.qd;have a9:=h.pn;have af:=h.qn;have ac:=ho.qd;have ab:=ho.qn;obtain⟨A,c,B,d,rfl,hA,hB⟩:=hv.sl;obtain⟨C,e,D,f,rfl,hC,hD⟩:=hu.sl;refine Jz Tryz.func192 Tryz.ntmps192 rfl kr rfl ?_;refine ρ ?_;refine bx ?_;intro w1 b1 a5 ah a3;refine ρ ?_;refine bx ?_;intro w2 b2 a1 ag a2;refine ρ ?_;refine alc Yv ?_;intro w3 b3 Z ad a6;have O:=(a5.trans a1).trans Z;have G:Ext w3 w3.drew:=(Ext.refl w3).drew;have a3:=((a3.ext a1).ext Z).ext G;have a2:=(a2.ext Z).ext G;have i:=O.trans G;refine ρ ?_;refine dr [(0,0),(0,1),(1,2),(1,3),(2,4)] kr ?_;refine ρd ?_;refine Qb (cs:=[.bool p.neg,.slice A _ c,.slice B _ d]) (λj u hu=>a3.at hu) ?_;refine ρd ?_;refine Qb (cs:=[.bool q.neg,.slice C _ e,.slice D _ f]) (λj u hu=>a2.at hu) ?_
 refine ρd ?_;refine dcl (Jsg (N:=N') (q:=q) ⟨_,_,rfl,hC.ext i,hD.ext i⟩ om a8) ?_;rintro y w4 ⟨hY,J⟩;refine⟨J,?_⟩;refine ρd ?_;refine dcl (Qhb (N:=N) (p:=p) (q:=q.opp) ⟨_,_,rfl,(hA.ext i).ext J,(hB.ext i).ext J⟩ hY a9 aa ab ac hn.d hn.s) ?_;rintro r w5 ⟨hR,a4⟩;refine⟨a4,?_⟩;obtain⟨A',c',B',d',rfl,_,_⟩:=hR.sl;have U:=(G.trans J).trans a4;refine ρd ?_;refine Jd ?_;refine stb (cs':=[.bool (PR.add p q.opp).neg,.slice A' _ c',.slice B' _ d']) (a6.ext U) ?_ (Qz rfl rfl rfl);intro w6 ae hg6 a7;refine ρ ?_;exact Vp ae ⟨(hR.ol (G.trans J)).box hg6 a6.lt O,a7 w (O.trans U) (nL (a5.trans a1).size ad)⟩
theorem Jsj(hv:RtX N w v p)(hu:RtX N' w u q)(h0:q.norm.num≠0)(hp0:p.den≠0)(hq0:q.den≠0)(h1:p.num<4294967296)(h2:p.den<4294967296)(h3:q.num<4294967296)(h4:q.den<4294967296)(h5:p.den*q.num<4294967296):
  Ret Tryz.prog 191 [v,u] w λr w'=>(∃ x,r=.tuple #[x,.int .i64 0]/\RtX (Ol w) w' x (PR.div p q))/\Ext w w':=by
 have a1:=Iz q;have a2:=Uq hq0;have a3:=Uq hp0;have a4:=Uq (q:=⟨q.norm.neg,q.norm.den,q.norm.num⟩) h0;obtain⟨A,c,B,d,rfl,hA,hB⟩:=hv.sl;obtain⟨C,e,D,f,rfl,hC,hD⟩:=hu.sl;refine Jz Tryz.func191 Tryz.ntmps191 rfl kr rfl ?_;refine ρ ?_;refine bx ?_;intro w1 b1 a9 an Z;refine ρ ?_;refine bx ?_;intro w2 b2 a8 aj J;refine ρ ?_;refine alc Yv ?_;intro w3 b3 a7 ai am;have O:=(a9.trans a8).trans a7;have l1:=Z.lt;have l2:=J.lt;have Z:=(Z.ext a8).ext a7;have J:=J.ext a7;refine ρ ?_;refine ldW J ?_;refine ρ ?_;refine cl (Vd (N:=N') (q:=q) ⟨_,_,rfl,hC.ext O,hD.ext O⟩ om h4) ?_;rintro y w4 ⟨hY,U⟩;obtain⟨C5,e5,D5,f5,rfl,ac,ab⟩:=hY.sl;refine ρ ?_;refine stb (cs':=[.bool q.norm.neg,.slice C5 _ e5,.slice D5 _ f5]) (J.ext U) ?_ (Qz rfl rfl rfl);intro w5 G aa ah;have af:=J.lt;have a5:GrN (Ol w3) w4 w5:=GrN.by aa λk ek=>by injection ek with ek;subst ek;exact af
 have ac:=ac.gr a5;have ab:=ab.gr a5;have j:Ext w w5:=ah w (O.trans U) (nL a9.size aj);have ae:Blk w5 b1 _ _:=(Z.ext U).grown aa (λe=>by injection e with e;omega);have a6:Blk w5 b3 _ _:=(am.ext U).grown aa (λe=>by injection e with e;omega);refine ρ ?_;refine ld (G.at (i:=1) rfl) ?_;refine ρ ?_;rw[len0,decide_eq_false h0];refine ρ ?_;refine ldW ae ?_;refine ρ ?_;refine ld (G.at (i:=0) rfl) ?_;refine ρ ?_;refine ld (G.at (i:=2) rfl) ?_;refine ρ ?_;refine ld (G.at (i:=1) rfl) ?_;refine ρ ?_;refine bld (Ua _ _ _ _ _ _ _ _) ?_;refine ρ ?_;refine cl (Jfn (N:=N) (p:=p) (q:=⟨q.norm.neg,q.norm.den,q.norm.num⟩) ⟨_,_,rfl,hA.ext j,hB.ext j⟩ ⟨_,_,rfl,ab,ac⟩ h1 h2 (by show q.norm.den<_;omega) (by show q.norm.num<_;omega) (Nat.lt_of_le_of_lt (Nat.mul_le_mul a3 (nL a4 a1)) h5)) ?_;rintro r w6 ⟨hR,ad⟩;have eq:PR.mul p ⟨q.norm.neg,q.norm.den,q.norm.num⟩=PR.div p q:=by unfold PR.div;rw[if_neg h0]
 rw[eq]at hR;obtain⟨A',c',B',d',rfl,_,_⟩:=hR.sl;refine ρ ?_;refine stb (cs':=[.bool (PR.div p q).neg,.slice A' _ c',.slice B' _ d']) (a6.ext ad) ?_ (Qz rfl rfl rfl);intro w7 ak hg7 ag;refine ρ ?_;exact Xh ak ⟨⟨_,rfl,hR.box hg7 a6.lt j⟩,ag w (j.trans ad) (nL (a9.trans a8).size ai)⟩
theorem Qgz(hv:RtX N w v p)(hu:RtX N' w u q)(hN:∀ k,N k->k<w.heap.size)(hN':∀ k,N' k->k<w.heap.size)(h1:p.num<4294967296)(h2:p.den<4294967296)(h3:q.num<4294967296)(h4:q.den<4294967296):
  Ret Tryz.prog 161 [v,u] w λr w'=>r=.int .i64 (PR.cmp p q)/\Ext w w':=by
 have s1:=Qa (n:=p.num) om;have s2:=Qa (n:=p.den) om;have s3:=Qa (n:=q.num) om;have s4:=Qa (n:=q.den) om;have t2:p.dvs<4294967296:=by unfold PR.dvs;split<;>omega
 have t4:q.dvs<4294967296:=by unfold PR.dvs;split<;>omega
 have s5:=Qa (n:=p.dvs) om;have s6:=Qa (n:=q.dvs) om;obtain⟨A,c,B,d,rfl,hA,hB⟩:=id hv.sl;obtain⟨C,e,D,f,rfl,hC,hD⟩:=id hu.sl;refine Jz Tryz.func161 Tryz.ntmps161 rfl kr rfl ?_;refine ρ ?_;refine bx ?_;intro w1 b1 ae ak J;refine ρ ?_;refine bx ?_;intro w2 b2 ac aj a1;have U:=ae.trans ac;have J:=J.ext ac;refine ρ ?_;refine ldW J ?_;refine ρ ?_;refine cl (Ga (hv.ext U) om) ?_;rintro _ w3 ⟨rfl,a8⟩;refine ρ ?_;refine ldW (a1.ext a8) ?_;refine ρ ?_;refine cl (Ga ((hu.ext U).ext a8) om) ?_;rintro _ w4 ⟨rfl,ad⟩;have O:=a8.trans ad;have a2:=U.trans O;have J:=J.ext O;have a1:=a1.ext O;refine ρ ?_;refine ci (λh=>?_) (λh=>?_)
 .have a9:p.sign≠q.sign:=by simpa using h
  refine ρ ?_;refine cl (Jll _ _ _) ?_;rintro _ w5 ⟨rfl,rfl⟩;refine ρ ?_;refine Jq ⟨?_,a2⟩;unfold PR.cmp sgn;rw[if_pos a9];congr 1
  split
  .rfl
  rw[if_pos om]
 have a9:¬ p.sign≠q.sign:=by simpa using h
 have a5:Ext w4 w4.drew:=(Ext.refl w4).drew;have a4:=J.ext a5;have a3:=a1.ext a5;have y:=a2.trans a5;refine ρ ?_;refine dr [(0,0),(0,1),(0,2),(0,3),(0,6),(0,7),(0,8),(1,4),(1,5),(1,9),(1,10),(1,11),(0,12),(0,13)] kr ?_;refine ρd ?_;refine dld (a4.at (i:=1) rfl) ?_;refine ρd ?_;refine Qb (cs:=[.bool q.neg,.slice C _ e,.slice D _ f]) (λj u hu=>a3.at hu) ?_;refine ρd ?_;refine dld (a3.at (i:=1) rfl) ?_;refine ρd ?_;refine Qb (cs:=[.bool p.neg,.slice A _ c,.slice B _ d]) (λj u hu=>a4.at hu) ?_;refine ρd ?_;refine dcl (Jsh (hu.ext y) (λk hk=>nM (hN' k hk) y.size) om) ?_;rintro x5 w5 ⟨ai,a7⟩;refine⟨a7,?_⟩;refine ρd ?_;refine dcl (Yr ((hA.1.ext y).ext a7) ai.1 om om) ?_;rintro x6 w6 ⟨ah,_,ab⟩;refine⟨ab,?_⟩;have G:=(y.trans a7).trans ab;refine ρd ?_;refine dcl (Jsh (hv.ext G) (λk hk=>nM (hN k hk) G.size) om) ?_
 rintro x7 w7 ⟨ag,Z⟩;refine⟨Z,?_⟩;refine ρd ?_;refine dcl (Yr ((hC.1.ext G).ext Z) ag.1 om om) ?_;rintro x8 w8 ⟨af,_,a6⟩;refine⟨a6,?_⟩;refine ρd ?_;refine dcl (Jxs ((ah.ext Z).ext a6) af) ?_;rintro _ w9 ⟨rfl,aa⟩;refine⟨aa,?_⟩;refine ρd ?_;refine ρ ?_;refine Jq ⟨congrArg (Value.int .i64) ?_,((G.trans Z).trans a6).trans aa⟩;unfold PR.cmp Vt;rw[if_neg a9];have e:(if p.num*q.dvs<q.num*p.dvs then(-1:Int) else if q.num*p.dvs<p.num*q.dvs then 1 else 0)=if p.num*q.dvs<q.num*p.dvs then -1 else if p.num*q.dvs=q.num*p.dvs then 0 else 1:=by
  split
  .rfl
  split
  .rw[if_neg om]
  rw[if_pos om]
 rw[e];have h3:(if p.num*q.dvs<q.num*p.dvs then(-1:Int) else if p.num*q.dvs=q.num*p.dvs then 0 else 1) = -1∨(if p.num*q.dvs<q.num*p.dvs then(-1:Int) else if p.num*q.dvs=q.num*p.dvs then 0 else 1)=0∨(if p.num*q.dvs<q.num*p.dvs then(-1:Int) else if p.num*q.dvs=q.num*p.dvs then 0 else 1)=1:=by
  split
  .exact .inl rfl
  split
  .exact .inr (.inl rfl)
  exact .inr (.inr rfl)
 have h4:p.sign=0∨p.sign = -1∨p.sign=1:=by
  unfold PR.sign;split
  .exact .inl rfl
  split
  .exact .inr (.inl rfl)
  exact .inr (.inr rfl)
 rcases h3 with h3|h3|h3<;>rcases h4 with h4|h4|h4<;>rw[h3,h4]<;>decide
open Go.RowKit Pl Go.Wk
variable {d k n ty:Nat}{N:Nat->Prop}{a b f p q:PR}{α:Type}{fv ov rv v:Value}{w:World}
theorem ERt: ElT Tryz.prog 56 58 3 56 (.agg #[.bool false,.slice none 0 0,.slice none 0 0]):=⟨Tryz.underlying56,info_parts kr,rfl,by decide⟩
def prz: PR:=⟨false,0,0⟩
theorem rtc0(N:Nat->Prop)(w:World): RtC N w [.bool false,.slice none 0 0,.slice none 0 0] prz:=⟨_,_,rfl,NatX.nil w,NatX.nil w⟩
theorem Qtv(n:Nat)(p:List Value×α): Jm (List.replicate n p)=Qo n λ_=>p.1:=by
 induction n with
 | zero=>rfl
 | succ n ih=>
  rw[List.replicate_succ'];have e:Jm (List.replicate n p++[p])=Jm (List.replicate n p)++p.1:=by simp[Jm]
  rw[e,ih];simp[Qo,List.range_succ,List.flatMap_append]
theorem mkRt{al:AL}{Q:Exit->Act->World->Prop}{ops:Array Oper}{rest:List Oper}{pos:String}{aft:Array Edge}{x y:Operand}(m:Nat)(hm:m<=1000)(kk:∀ w1 A,Ext w w1->(∀ N,OX 58 3 RtC N w1 w.heap.size (.slice A m m) (List.replicate m prz))->(∀ g,A=some g->w.heap.size<=g.block)->WL Tryz.prog n ops Q rest ((d,.slice A m m)::al) w1)(hx:ev al x=some (.int .i64 (m:Int)):=by rfl)(hy:ev al y=some (.int .i64 (m:Int)):=by rfl)(hd:Nat.blt d n=true:=by rfl):
  WL Tryz.prog n ops Q (⟨some d,.makeSlice 56 x y,ty,pos,aft,none⟩::rest) al w:=by
 refine mkn ERt m om (by unfold maxLen;omega) ?_ hx hy rfl rfl hd;intro w1 A i u B;refine kk w1 A i (λN=>⟨List.replicate m ([.bool false,.slice none 0 0,.slice none 0 0],prz),by simp,?_,λp j=>?_⟩) B
 .rw[List.length_replicate,Qtv];have e:(madeCells (Value.agg #[.bool false,.slice none 0 0,.slice none 0 0]).cells (m*3)).toList=Qo m λ_=>[.bool false,.slice none 0 0,.slice none 0 0]:=Qjt (zs:=[.bool false,.slice none 0 0,.slice none 0 0]) (by simp) m;rw[<-e];exact u
 rw[List.eq_of_mem_replicate j];exact⟨rfl,rtc0 N w1⟩
def mix(l' l:List α)(k:Nat): List α:=l'.take k++l.drop k
theorem Kw{l' l:List α}(h:l'.length=l.length)(hk:k<=l.length): (mix l' l k).length=l.length:=by
 simp[mix,h];omega
theorem Jbc{l' l:List α}(h:l'.length=l.length)(hk:k<l.length): (mix l' l k)[k]?=l[k]?:=by
 rw[mix,List.getElem?_append_right (by simp;omega),List.length_take,Nat.min_eq_left om,Nat.sub_self,List.getElem?_drop,Nat.add_zero]
theorem Kk{l' l:List α}(h:l'.length=l.length)(hk:k<l.length){x:α}(hx:l'[k]?=some x): (mix l' l k).set k x=mix l' l (k+1):=by
 have j:l'.take (k+1)=l'.take k++[x]:=by rw[List.take_add_one,hx];rfl
 have i:l.drop k=l[k]::l.drop (k+1):=List.drop_eq_getElem_cons hk;rw[mix,mix,j,i,List.set_append_right _ _ (by simp;omega),List.length_take,Nat.min_eq_left om,Nat.sub_self,List.set_cons_zero,List.append_assoc];rfl
theorem Jgm{l' l:List α}(h:l'.length=l.length)(hk:k<l.length)(hx:l'[k]?=l[k]?): mix l' l k=mix l' l (k+1):=by
 rw[<-Kk h hk (x:=l[k]) (by rw[hx];exact gE hk)];refine List.ext_getElem? λi=>?_;by_cases e:k=i
 .subst e;rw[List.getElem?_set_self (by rw[Kw h om];exact hk),Jbc h hk,List.getElem?_eq_getElem hk]
 rw[List.getElem?_set_ne e]
theorem Jjs(l' l:List α): mix l' l 0=l:=by simp[mix]
theorem Jkz{l' l:List α}(h:l'.length=l.length): mix l' l l.length=l':=by simp[mix,<-h]
theorem RtX.cell(h:RtX N w v q): ∃ A c B d,v=.agg #[.bool q.neg,.slice A (Jj q.num).length c,.slice B (Jj q.den).length d]/\RtC N w [.bool q.neg,.slice A (Jj q.num).length c,.slice B (Jj q.den).length d] q:=by
 obtain⟨A,c,B,d,e,j,i⟩:=h.sl;exact⟨A,c,B,d,e,_,_,rfl,j,i⟩
theorem RtC.sl{N:Nat->Prop}{w:World}{cs:List Value}{q:PR}(h:RtC N w cs q): ∃ A c B d,cs=[.bool q.neg,.slice A (Jj q.num).length c,.slice B (Jj q.den).length d]/\RtX N w (.agg #[.bool q.neg,.slice A (Jj q.num).length c,.slice B (Jj q.den).length d]) q:=by
 obtain⟨x,y,e,j,i⟩:=h;obtain⟨A,c,rfl⟩:=j.1.sl;obtain⟨B,d,rfl⟩:=i.1.sl;exact⟨A,c,B,d,e,_,_,rfl,j,i⟩
theorem RtC.one(cs:List Value)(q:PR)(h:RtC N w cs q): ∀ u∈cs,u.oneCell'=true:=by
 obtain⟨A,c,B,d,rfl,_⟩:=h.sl;exact Qz rfl rfl rfl
abbrev Ov(w:World)(v:Value): Nat->Prop:=λk=>k<w.heap.size∨v.ownBlock=some k
theorem Jvg(n:Nat)(hn:n<=1000)(w:World): Ret Tryz.prog 159 [.int .i64 (n:Int)] w λu w'=>OX 58 3 RtC (Ov w u) w' w.heap.size u (List.replicate n pr0)/\Ext w w':=by
 refine Jz Tryz.func159 Tryz.ntmps159 rfl kr rfl ?_;refine ρ ?_;refine mkRt n hn ?_;intro w1 A a2 hO hA;have hO:=hO (Ov w (.slice A n n));refine ρ ?_;refine Js (fun (k:Nat)=>[(3,.slice A n n),(8,.int .i64 (n:Int)),(9,.int .i64 (k:Int))]) (λk w'=>k<=n/\Ext w w'/\OX 58 3 RtC (Ov w (.slice A n n)) w' w.heap.size (.slice A n n) (mix (List.replicate n pr0) (List.replicate n prz) k)) (λk=>n-k) 0 sB ⟨Nat.zero_le _,a2,by rw[Jjs];exact hO⟩ ?_;rintro k w2 ⟨hk,y,i⟩;have U:(mix (List.replicate n pr0) (List.replicate n prz) k).length=n:=by rw[Kw (by simp) (by simpa using hk)];simp
 refine ρ ?_;refine ci (λh=>?_) (λh=>?_)
 .have B:k<n:=by have:=oT h;omega
  clear h;refine ρ ?_;refine cl (Jjk 0 (by decide) (by decide) w2) ?_;rintro r w3 ⟨hr,J⟩;have e0:PR.int 0=pr0:=rfl;rw[e0]at hr;obtain⟨C,e,D,f,rfl,hc⟩:=hr.cell;have G:=i.ext RtC.sta J;obtain⟨A',c',cs,ev,_,O,_⟩:=id G.el;rw[U]at ev O;injection ev with ev1 ev2 ev3
  subst ev1;refine ρ ?_;refine ixq 3 k O B ?_;refine ρ ?_;obtain⟨_,_,_,_,a3⟩:=id G.form;have a5:k<(mix (List.replicate n pr0) (List.replicate n prz) k).length:=om
  refine stX RtC.sta G U.symm a5 (cs:=[.bool pr0.neg,.slice C _ e,.slice D _ f]) (a:=pr0) (RtC.sta.old hc λj Z=>.inl ?_) (λg hg=>.inr hg) (Qz rfl rfl rfl) ?_
  .rcases Z with Z|Z
   .exact nM Z y.size
   obtain⟨_,_,_,_,h3⟩:=id i.form;exact(h3 j Z).2
  intro w4 a1 a6;rw[Kk (l':=List.replicate n pr0) (l:=List.replicate n prz) (x:=pr0) (by simp) (by simpa using B) (by simp[B])]at a1;refine ρ ?_;exact Jp (k+1) sO ⟨om,Ja (y.trans J) a6 (λg hg=>(a3 g hg).1),a1⟩ om
 have a4:k=n:=by have:=oF h;omega
 subst a4;have e:=Jkz (l':=List.replicate k pr0) (l:=List.replicate k prz) (by simp);rw[List.length_replicate]at e;rw[e]at i;refine ρ ?_;exact Jq ⟨i,y⟩
structure Sl(q:PR): Prop where
 d0:q.den≠0
 n:q.num<=720
 d:q.den<=120
theorem mul_le'(hp:p.den≠0)(hq:q.den≠0): (PR.mul p q).num<=p.num*q.num/\(PR.mul p q).den<=p.den*q.den:=by
 have j:=(PR.norm_val hp).2;have i:=(PR.norm_val hq).2;refine⟨nL (Iz ⟨p.norm.neg != q.norm.neg,p.norm.num*q.norm.num,p.norm.den*q.norm.den⟩) (Nat.mul_le_mul (Iz p) (Iz q)),Nat.le_trans (Uq (q:=⟨p.norm.neg != q.norm.neg,p.norm.num*q.norm.num,p.norm.den*q.norm.den⟩) (Nat.mul_ne_zero j i)) (Nat.mul_le_mul (Uq hp) (Uq hq))⟩
theorem Sl.sm(ha:Sl a)(hf:Sl f)(hb:Sl b): Sm a (PR.mul f b):=by
 obtain⟨G,D⟩:=mul_le' hf.d0 hb.d0;have B:f.num*b.num<=720*720:=Nat.mul_le_mul hf.n hb.n;have y:f.den*b.den<=120*120:=Nat.mul_le_mul hf.d hb.d;have u:a.den*(PR.mul f b).den<=120*14400:=Nat.mul_le_mul ha.d om;have j:a.num*(PR.mul f b).den<=720*14400:=Nat.mul_le_mul ha.n om;have i:(PR.mul f b).num*a.den<=518400*120:=Nat.mul_le_mul om ha.d;have:=ha.n;exact⟨ha.d0,(PR.mul_val hf.d0 hb.d0).2,om,om,om,om⟩
theorem Sl.mm(hf:Sl f)(hb:Sl b): f.norm.den*b.norm.den<4294967296:=by
 have i:f.norm.den*b.norm.den<=120*120:=Nat.mul_le_mul (nL (Uq hf.d0) hf.d) (nL (Uq hb.d0) hb.d);omega
theorem Sl.len(h:Sl q): (Jj q.num).length<=1000:=by have:=Qa (n:=q.num) (by have:=h.n;omega);omega
def Ya(f a b:PR): PR:=if b.sign≠0 then PR.sub a (PR.mul f b) else a
theorem Qwb{row other:List PR}(hr:GX 3 RtC N w rv row)(ho:GX 3 RtC N w ov other)(hf:RtX N w fv f)(hN:∀ k,N k->k<w.heap.size)(hl:other.length=row.length)(h0:0<row.length)(hm:row.length<=1000)(hs:∀ q∈row,Sl q)(hs2:∀ q∈other,Sl q)(hsf:Sl f): Ret Tryz.prog 164 [rv,ov,fv] w λu w'=>GX 3 RtC N w' u (Zl row other f)/\Ext w w':=by
 obtain⟨A,c,_,rfl,hc,_,_,_,_⟩:=id hr.el;obtain⟨B,d,_,rfl,hd,_,_,_,_⟩:=id ho.el;obtain⟨C,e,D,g,rfl,hC,hD⟩:=id hf.sl;refine Jz Tryz.func164 Tryz.ntmps164 rfl kr rfl ?_;refine ρ ?_;refine bx ?_;intro w1 b1 ap bt aj;refine ρ ?_;refine mkRt row.length hm ?_;intro w2 O ao hO ag;have hO:=hO (λk=>N k∨(Value.slice O row.length row.length).ownBlock=some k);have a9:=ap.trans ao;have a3:∀ {k},(Value.slice O row.length row.length).ownBlock=some k->w.heap.size<=k:=fun {k} h=>by
  cases O with
  | none=>cases h
  | some ad=>injection h with h;subst h;exact nL ap.size (ag ad rfl)
 have ah:∀ k,(N k∨(Value.slice O row.length row.length).ownBlock=some k)->N k∨w.heap.size<=k:=λk y=>y.elim .inl λh=>.inr (a3 h);have hr:=hr.old RtC.sta (by decide) ah;have ho:=ho.old RtC.sta (by decide) ah;have hf:=hf.old ah;generalize hM:(λk=>N k∨(Value.slice O row.length row.length).ownBlock=some k)=M at *
 have b5:∀ g,(Value.slice O row.length row.length).ownBlock=some g->M g:=λg hg=>by rw[<-hM];exact .inr hg
 have bl:∀ {w5 w':World} {ls:List PR},OX 58 3 RtC M w5 w1.heap.size (.slice O row.length row.length) ls->Ext w w5->Ext w5 w'->∀ k,M k->k<w'.heap.size:=fun {w5 w' ls} h hx hx' k y=>by
  rw[<-hM]at y;rcases y with y|y
  .exact nM (hN k y) (hx.trans hx').size
  obtain⟨_,_,_,_,h3⟩:=id h.form;exact nM (h3 k y).2 hx'.size
 refine ρ ?_;refine cpX RtC.sta hO (by simp) (hr.ext RtC.sta (by decide) a9) h0 (by decide) (λcs a h=>h) RtC.one b5 ?_;intro w3 bj aw;have a8:Ext w w3:=Ja a9 aw λk y=>a3 y;have b6:Blk w3 b1 _ _:=(aj.ext ao).grown aw λe=>by
  have h1:=aj.lt;have:=a3 e.symm;cases O with
  | none=>cases e
  | some ad=>injection e with e;have:=ag ad rfl;omega
 refine ρ ?_;refine ldW b6 ?_;refine ρ ?_;refine cl (Ga (hf.ext a8) hsf.len) ?_;rintro _ w4 ⟨rfl,ac⟩;have b4:=bj.ext RtC.sta ac;have bm:=b6.ext ac;have a7:=a8.trans ac;have b7:∀ {w':World} {ls:List PR},OX 58 3 RtC M w' w1.heap.size (.slice O row.length row.length) ls->ls.length<=1000->GX 3 RtC N w' (.slice O row.length row.length) ls:=fun {w' ls} h hl=>h.gx RtC.sta om λk y=>⟨by rw[<-hM];exact .inl y,λe=>by have:=a3 e;have:=hN k y;omega⟩
 refine ρ ?_;refine ci (λh=>?_) (λh=>?_)
 .have hz:f.sign=0:=eq_of_beq h;refine ρ ?_;refine Jq ⟨?_,a7⟩;unfold Zl;rw[if_pos hz];exact b7 b4 hm
 have hz:f.sign≠0:=λe=>by rw[e]at h;simp at h
 have bf:Zl row other f=List.zipWith (Ya f) row other:=by unfold Zl;rw[if_neg hz];rfl
 have Z:(List.zipWith (Ya f) row other).length=row.length:=by simp[hl]
 refine ρ ?_;refine Js (fun (k:Nat)=>[(1,.slice B other.length d),(5,.pointer (some ⟨b1,0,none⟩)),(7,.slice O row.length row.length),(20,.int .i64 (row.length:Int)),(21,.int .i64 (k:Int))])
  (λk w'=>k<=row.length/\Ext w w'/\Blk w' b1 58 [.bool f.neg,.slice C (Jj f.num).length e,.slice D (Jj f.den).length g]/\OX 58 3 RtC M w' w1.heap.size (.slice O row.length row.length) (mix (List.zipWith (Ya f) row other) row k)) (λk=>row.length-k) 0 sB ⟨Nat.zero_le _,a7,bm,by rw[Jjs];exact b4⟩ ?_
 rintro k w5 ⟨y,J,ai,G⟩;have au:(mix (List.zipWith (Ya f) row other) row k).length=row.length:=Kw Z y;refine ρ ?_;refine ci (λh=>?_) (λh=>?_)
 .have U:k<row.length:=by have:=oT h;omega
  clear h;obtain⟨B',d',_,ev,_,_,aq,_,bd⟩:=id (ho.ext RtC.sta (by decide) J).el;injection ev with ev1 ev2 ev3
  subst ev1;obtain⟨ce,bs,be,az⟩:=bd k om;obtain⟨E,x1,F,x2,rfl,ar⟩:=be.sl;have bb:other[k]?=some other[k]:=gE om;have a2:=hs2 other[k] (List.getElem_mem _);have ae:row[k]?=some row[k]:=gE U;have b9:=hs row[k] (List.getElem_mem _);refine ρ ?_;refine ixq 3 k aq om ?_;refine ρ ?_;refine lds (λj u hu=>az j u hu) ?_;refine ρ ?_;refine cl (Ga ar a2.len) ?_;rintro _ w6 ⟨rfl,a5⟩;have am:(List.zipWith (Ya f) row other)[k]?=some (Ya f row[k] other[k]):=by simp[List.getElem?_zipWith,ae,bb]
  refine ρ ?_;refine ci (λh=>?_) (λh=>?_)
  .have ab:other[k].sign≠0:=λe=>by rw[e]at h;simp at h
   have ak:Ya f row[k] other[k]=PR.sub row[k] (PR.mul f other[k]):=by unfold Ya;rw[if_pos ab]
   have b8:Ext w6 w6.drew:=(Ext.refl w6).drew;have i:=a5.trans b8;have bi:=G.ext RtC.sta i;obtain⟨O',_,_,ev,_,af,ax⟩:=id bi.el;rw[au]at ev af;injection ev with ev1 ev2 ev3
   subst ev1;obtain⟨ce,bn,aa,ay⟩:=ax k om;have e2:(mix (List.zipWith (Ya f) row other) row k)[k]'(by omega)=row[k]:=by
    have:=Jbc Z U;rw[List.getElem?_eq_getElem om,ae]at this;injection this
   rw[e2]at aa;obtain⟨E2,y1,F2,y2,rfl,ba⟩:=aa.sl;refine ρ ?_;refine dr [(0,0),(0,1),(0,2),(0,3),(0,4),(0,5),(0,6),(0,7),(0,8),(0,9),(0,10),(1,11),(1,12),(0,13),(2,14)] kr ?_;refine ρd ?_;refine Xc 3 k af U ?_;refine ρd ?_;refine Qb (λj u hu=>ay j u hu) ?_;refine ρd ?_;refine Qb (cs:=[.bool f.neg,.slice C _ e,.slice D _ g]) (λj u hu=>(ai.ext i).at hu) ?_;refine ρd ?_;refine Xc 3 k (aq.ext i) om ?_;refine ρd ?_;refine Qb (λj u hu=>Zz i (az j u hu)) ?_;refine ρd ?_;have bq:=hsf.n;have br:=hsf.d;have bo:=a2.n;have bp:=a2.d;refine dcl (Jfn ((hf.ext J).ext i) (ar.ext i) om om om om (hsf.mm a2)) ?_;rintro x7 w7 ⟨bh,a4⟩;refine⟨a4,?_⟩;refine ρd ?_;refine dcl (Qgw (ba.ext a4) bh (b9.sm hsf a2)) ?_;rintro x8 w8 ⟨b2,an⟩;refine⟨an,?_⟩;rw[<-ak]at b2;have a6:=a4.trans an;have a1:=i.trans a6;obtain⟨G1,g1,G2,g2,rfl,bg⟩:=b2.cell
   refine ρd ?_;refine Xc 3 k (af.ext a6) U ?_;refine ρd ?_;refine Jd ?_;refine stX RtC.sta (G.ext RtC.sta a1) au.symm (show k<_ by omega) (cs:=[.bool (Ya f row[k] other[k]).neg,.slice G1 _ g1,.slice G2 _ g2]) (a:=Ya f row[k] other[k]) (RtC.sta.old bg λj hj=>.inl ?_) b5 (Qz rfl rfl rfl) ?_
   .exact bl G J (i.trans a4) j hj
   intro w9 b3 av;rw[Kk Z U am]at b3;refine ρ ?_;refine Jp (k+1) sO ⟨om,Ja (J.trans a1) av (λg hg=>a3 hg),(ai.ext a1).grown av ?_,b3⟩ om;intro e;have h1:=aj.lt;cases O with
   | none=>cases e
   | some ad=>injection e with e;have:=ag ad rfl;omega
  have ab:other[k].sign=0:=by simpa using h
  have ak:(List.zipWith (Ya f) row other)[k]?=row[k]?:=by rw[am,ae];unfold Ya;rw[if_neg (by simp[ab])]
  rw[Jgm Z U ak]at G;refine ρ ?_;exact Jp (k+1) sO ⟨om,J.trans a5,ai.ext a5,G.ext RtC.sta a5⟩ om
 have bc:k=row.length:=by have:=oF h;omega
 subst bc;rw[Jkz Z]at G;refine ρ ?_;refine Jq ⟨?_,J⟩;rw[bf];exact b7 G om
end Go.Proofs.YtebiphhfkdbpfaaGreatDoor
namespace Go.Wk
open Go.RowKit
variable {n ty:Nat}
theorem stF{P:Program}{al:AL}{w:World}{Q:Exit->Act->World->Prop}{ops:Array Oper}{rest:List Oper}{pos:String}{aft:Array Edge}{tt:TT}[h:Tab P tt]{x y:Operand}{t g bt i:Nat}{k:TK}{u v:Value}{cs:List Value}(hb:Blk w g bt cs)(hu:cs[i]?=some u)(kk:∀ w1,Blk w1 g bt (cs.set i v)->w.grownBy w1 (some g)->WL P n ops Q rest al w1)(ht:tk tt t=some k:=by rfl)(hk:k.size=1:=by rfl)(hp:Vj k.desc=true:=by rfl)(hx:ev al x=some (.pointer (some ((⟨g,0,none⟩:Addr).add i))):=by rfl)(hy:ev al y=some v:=by rfl)(hv:v.oneCell'=true:=by rfl):
  WL P n ops Q (⟨none,.store t x y,ty,pos,aft,none⟩::rest) al w:=by
 have e:(⟨g,0,none⟩:Addr).add i=⟨g,i,none⟩:=by rw[Zm,Nat.zero_add]
 refine sto (hb.at hu) ?_ (kk _ ?_ ⟨rfl,rfl,rfl,by simp[World.setCell],λk hk hn=>Below.heap_setCell w _ v k (λj=>hn (by rw[j,e]))⟩) ht hk hp hx hy hv
 .rw[e];exact hb.frozen i
 rw[e];exact hb.set i v
end Go.Wk
namespace Go.Proofs.YtebiphhfkdbpfaaGreatDoor
open Go.RowKit Pl Go.Wk
attribute [local irreducible] WC WL QX WD WDB WP WN WG WH
variable {cs xs':List Value}{b base base' e' k m m' n sz':Nat}{w:World}
theorem EMx: ElT Tryz.prog 122 56 1 24 (.slice none 0 0):=⟨Tryz.underlying122,info_parts kr,rfl,by decide⟩
def MxC(N:Nat->Prop)(w:World)(cs:List Value)(l:List PR): Prop:=∃ v,cs=[v]/\GX 3 RtC N w v l
theorem MxC.sta: Sta MxC:=⟨λ⟨v,e,h⟩ i=>⟨v,e,h.gr RtC.sta (by decide) i⟩,λ⟨v,e,h⟩ j=>⟨v,e,h.old RtC.sta (by decide) j⟩⟩
def TN(b:Nat)(vr vb:Value): Nat->Prop:=λk=>k=b∨vr.ownBlock=some k∨vb.ownBlock=some k
structure TbV(w:World)(base b:Nat)(vr vg vb:Value)(t:PT): Prop where
 blk:Blk w b 182 [.int .i64 (t.n:Int),.int .i64 (t.m:Int),vr,vg,vb]
 rows:OX 56 1 MxC (TN b vr vb) w base vr t.rows
 goal:GX 3 RtC (TN b vr vb) w vg t.goal
 bas:Qp w base vb t.basis
section
variable {w w':World} {base b:Nat} {vr vg vb:Value} {t:PT}
theorem TbV.ext(h:TbV w base b vr vg vb t)(hx:Ext w w'): TbV w' base b vr vg vb t:=⟨h.blk.ext hx,h.rows.ext MxC.sta hx,h.goal.ext RtC.sta (by decide) hx,Jh h.bas hx⟩
theorem TbV.lt(h:TbV w base b vr vg vb t): ∀ k,TN b vr vb k->k<w.heap.size:=λk i=>by
 rcases i with i|i|i
 .rw[i];exact h.blk.lt
 .obtain⟨_,_,_,_,j⟩:=id h.rows.form;exact(j k i).2
 obtain⟨_,_,_,_,j⟩:=Jv h.bas;exact(j k i).2
theorem TbV.ne1(h:TbV w base b vr vg vb t): vr.ownBlock≠some b:=λe=>by
 obtain⟨ps,_,i,_⟩:=id h.rows;exact h.blk.ne_own i kr e.symm
theorem TbV.ne2(h:TbV w base b vr vg vb t): vb.ownBlock≠some b:=λe=>h.blk.ne_own h.bas kr e.symm
end
theorem Jyq{v v':Value}{cs:List Nat}(h:Qp w base v cs)(h':w.ownsRow base' e' sz' v' m' xs')(hne:Nat.beq 3 e'=false)(h1:v.ownBlock=some k)(h2:v'.ownBlock=some k): False:=by
 rcases h.2 with⟨e,_⟩|⟨g,cap,cur,e,_,hg,_⟩
 .rw[e]at h1;cases h1
 rcases h'.2 with⟨i,_⟩|⟨g',cap',cur',i,_,hg',_⟩
 .rw[i]at h2;cases h2
 rw[e]at h1;rw[i]at h2;injection h1 with h1;injection h2 with h2
 simp only at h1 h2;rw[h1]at hg;rw[h2]at hg';rw[hg]at hg';injection hg' with hg'
 injection hg' with _ hg' _
 rw[hg']at hne;simp at hne
theorem Jjf(hB:Blk w b 182 cs)(h0:cs[0]?=some (.int .i64 (n:Int)))(h1:cs[1]?=some (.int .i64 (m:Int)))(hn:n<=1000)(hm:m<=1000):
  Ret Tryz.prog 97 [.pointer (some ⟨b,0,none⟩)] w λu w'=>u=.int .i64 ((n+m+1:Nat):Int)/\Ext w w':=by
 refine Jz Tryz.func97 Tryz.ntmps97 rfl kr rfl ?_;have i:Ext w w.drew:=(Ext.refl w).drew;have j:=hB.ext i;refine ρ ?_;refine dr [(0,0),(0,1),(0,2),(0,3),(0,4),(0,5),(0,6),(0,7),(0,8),(0,9),(0,10)] kr ?_;refine ρd ?_;refine dld (j.at h0) ?_;refine ρd ?_;refine dld (j.at h1) ?_;refine ρd ?_;refine ρ ?_;refine Jq ⟨?_,i⟩;rfl
theorem Xwx(hB:Blk w b 182 cs)(h0:cs[0]?=some (.int .i64 (n:Int)))(h1:cs[1]?=some (.int .i64 (m:Int)))(hn:n<=1000)(hm:m<=1000):
  Ret Tryz.prog 160 [.pointer (some ⟨b,0,none⟩)] w λu w'=>u=.int .i64 ((n+m:Nat):Int)/\Ext w w':=by
 refine Jz Tryz.func160 Tryz.ntmps160 rfl kr rfl ?_;have i:Ext w w.drew:=(Ext.refl w).drew;have j:=hB.ext i;refine ρ ?_;refine dr [(0,0),(0,1),(0,2),(0,3),(0,4),(0,5),(0,6),(0,7),(0,8),(0,9)] kr ?_;refine ρd ?_;refine dld (j.at h0) ?_;refine ρd ?_;refine dld (j.at h1) ?_;refine ρd ?_;refine ρ ?_;refine Jq ⟨?_,i⟩;rfl
open Go.RowKit Pl Go.Wk
variable {c r:Nat}{vb vg vg' vr:Value}
def pvr(t:PT)(r c:Nat): List PR:=dvR (t.rows.getD r []) ((t.rows.getD r []).getD c pr0)
def Gu(t:PT)(r c:Nat): List (List PR):=t.rows.mapIdx λi row=>if i=r then row else Zl row (pvr t r c) (row.getD c pr0)
theorem Gw(t:PT)(r c:Nat): (Gu t r c).length=t.rows.length:=by simp[Gu]
theorem Jsl(t:PT)(hr:r<t.rows.length): (Gu t r c).set r (pvr t r c)=(t.pivot r c).rows:=by
 refine List.ext_getElem? λi=>?_;have e:(t.pivot r c).rows=t.rows.mapIdx λi j=>if i=r then pvr t r c else Zl j (pvr t r c) (j.getD c pr0):=rfl
 rw[e];by_cases h:r=i
 .subst h;rw[List.getElem?_set_self (by rw[Gw];exact hr),List.getElem?_mapIdx,List.getElem?_eq_getElem hr];simp
 rw[List.getElem?_set_ne h,Gu,List.getElem?_mapIdx,List.getElem?_mapIdx];cases t.rows[i]? with
 | none=>rfl
 | some x=>
  have hi:¬ i=r:=λe=>h e.symm;simp[hi]
theorem nzS(l:List Nat)(i x:Nat): (Jb (nz l)).set i (.int .i64 (x:Int))=Jb (nz (l.set i x)):=by simp[Jb,nz,List.map_set]
section
variable {w w':World} {base b:Nat} {vr vg vb:Value} {t:PT}
theorem TbV.rowsT(h:TbV w base b vr vg vb t){rows':List (List PR)}(ho:OX 56 1 MxC (TN b vr vb) w' base vr rows')(hg:w.grownBy w' vr.ownBlock): TbV w' base b vr vg vb ⟨t.n,t.m,rows',t.goal,t.basis⟩:=by
 obtain⟨ps,_,i,_⟩:=id h.rows;refine⟨h.blk.grown hg (λe=>h.ne1 e.symm),ho,h.goal.gr RtC.sta (by decide) (GrN.by hg λk j=>.inr (.inl j)),Qj h.bas (N:=λk=>vr.ownBlock=some k) (GrN.by hg λk j=>j) λg y u=>Jyq h.bas i kr y u⟩
theorem TbV.goalT(h:TbV w base b vr vg vb t){goal':List PR}(hB:Blk w' b 182 [.int .i64 (t.n:Int),.int .i64 (t.m:Int),vr,vg',vb])(hG:GX 3 RtC (TN b vr vb) w' vg' goal')(hg:w.grownBy w' (some b)): TbV w' base b vr vg' vb ⟨t.n,t.m,t.rows,goal',t.basis⟩ :=
 ⟨hB,h.rows.gr MxC.sta (M:=λk=>k=b) (GrN.by hg λk i=>by injection i with i;exact i.symm) λk i=>⟨.inl i,λe=>h.ne1 (by rw[e,i])⟩,hG,Qj h.bas (N:=λk=>k=b) (GrN.by hg λk i=>by injection i with i;exact i.symm) λg u j=>h.ne2 (by rw[u,j])⟩
theorem TbV.basT(h:TbV w base b vr vg vb t){basis':List Nat}(ho:Qp w' base vb basis')(hg:w.grownBy w' vb.ownBlock): TbV w' base b vr vg vb ⟨t.n,t.m,t.rows,t.goal,basis'⟩:=by
 obtain⟨ps,_,j,_⟩:=id h.rows;exact⟨h.blk.grown hg (λe=>h.ne2 e.symm),h.rows.gr MxC.sta (M:=λk=>vb.ownBlock=some k) (GrN.by hg λk i=>i) λk i=>⟨.inr (.inr i),λe=>Jyq h.bas j kr i e⟩,h.goal.gr RtC.sta (by decide) (GrN.by hg λk i=>.inr (.inr i)),ho⟩
end
structure TSl(t:PT): Prop where
 row:∀ l∈t.rows,∀ q∈l,Sl q
 goal:∀ q∈t.goal,Sl q
theorem Qlc{w:World}{base b:Nat}{t:PT}(hT:TbV w base b vr vg vb t)(hp:POk t)(hs:TSl t)(hs':TSl (t.pivot r c))(hr:r<t.m)(hc:c<t.n+t.m+1)(hz:((t.rows.getD r []).getD c pr0).norm.num≠0)(hn:t.n<=100)(hm:t.m<=100)(hbase:base<=w.heap.size):
  Ret Tryz.prog 162 [.pointer (some ⟨b,0,none⟩),.int .i64 (r:Int),.int .i64 (c:Int)] w λu w'=>u=.tuple #[]/\∃ vg',TbV w' base b vr vg' vb (t.pivot r c)/\GrN (TN b vr vb) w w':=by
 have a5:r<t.rows.length:=by rw[hp.rows];exact hr
 have hL:t.rows[r]?=some (t.rows.getD r []):=by rw[List.getElem?_eq_getElem a5];simp[List.getD,List.getElem?_eq_getElem a5]
 obtain⟨av,du⟩:=hp.row r hr;generalize hrow:t.rows.getD r []=row at *
 have bm:t.right+1=t.n+t.m+2:=rfl;rw[bm]at av;have af:c<row.length:=om
 have e5:t.rows.length<=100:=by rw[hp.rows];exact hm
 have c2:row∈t.rows:=List.mem_of_getElem? hL;have d3:t.rows[r]=row:=by rw[List.getElem?_eq_getElem a5]at hL;injection hL
 refine Jz Tryz.func162 Tryz.ntmps162 rfl kr rfl ?_;obtain⟨R,rc,_,rfl,e4,co,db⟩:=id hT.rows.el;obtain⟨ce,e8,⟨dt,rfl,hG⟩,bs⟩:=db r a5;rw[d3]at hG;obtain⟨A,ac,_,rfl,e9,_,eb,_,ea⟩:=id hG.el;have ai:∀ {w'},Ext w w'->w'.cell? (adr R r)=some (.slice A row.length ac):=λhx=>by
  have:=Zz hx (bs 0 _ rfl);rwa [Nat.mul_one,add_zero]at this
 refine ρ ?_;refine ld (hT.blk.at (i:=2) rfl) ?_;refine ρ ?_;refine ix r co a5 ?_;refine ρ ?_;refine ld (ai (Ext.refl w)) ?_;refine ρ ?_;refine mkRt row.length om ?_;intro w1 O au hO df;have az:∀ {k},(Value.slice O row.length row.length).ownBlock=some k->w.heap.size<=k:=fun {k} h=>by
  cases O with
  | none=>cases h
  | some ad=>injection h with h;subst h;exact df ad rfl
 have ck:=hT.lt;have d9:∀ k,TN b (.slice R t.rows.length rc) vb k->(Value.slice O row.length row.length).ownBlock≠some k:=λk Z e=>by have:=az e;have:=ck k Z;omega
 have hO:=hO (λk=>TN b (.slice R t.rows.length rc) vb k∨(Value.slice O row.length row.length).ownBlock=some k);have di:∀ k,(TN b (.slice R t.rows.length rc) vb k∨(Value.slice O row.length row.length).ownBlock=some k)->TN b (.slice R t.rows.length rc) vb k∨w.heap.size<=k:=λk Z=>Z.elim .inl λh=>.inr (az h);have dm:=hG.old RtC.sta (by decide) di;generalize hM:(λk=>TN b (.slice R t.rows.length rc) vb k∨(Value.slice O row.length row.length).ownBlock=some k)=M at *
 have ag:∀ g,(Value.slice O row.length row.length).ownBlock=some g->M g:=λg hg=>by rw[<-hM];exact .inr hg
 have da:=hT.ext au;refine ρ ?_;refine ld (da.blk.at (i:=2) rfl) ?_;refine ρ ?_;refine ix r (co.ext au) a5 ?_;refine ρ ?_;refine ld (ai au) ?_;refine ρ ?_;refine cpX RtC.sta hO (by simp) (dm.ext RtC.sta (by decide) au) om (by decide) (λcs a h=>h) RtC.one ag ?_;intro w2 bt hg2;have bw:Ext w w2:=Ja au hg2 λk Z=>az Z;obtain⟨O',oc,_,ev,_,dh,dg⟩:=id bt.el;injection ev with ev1 ev2 ev3
 subst ev1;obtain⟨ce,e0,d5,aj⟩:=dg c af;obtain⟨C,cc,D,dc,rfl,ca⟩:=d5.sl;have cb:row[c]=row.getD c pr0:=by simp[List.getD,List.getElem?_eq_getElem af]
 rw[cb]at ca aj;have bl:Sl (row.getD c pr0):=by rw[<-cb];exact hs.row row c2 _ (List.getElem_mem _)
 generalize hdd:row.getD c pr0=dv at *
 refine ρ ?_;refine ixq 3 c dh af ?_;refine ρ ?_;refine lds (λj u hu=>aj j u hu) ?_;refine ρ ?_;refine alc Yv ?_;intro w3 b3 cx d7 dq;refine ρ ?_;refine stb (cs':=[.bool dv.neg,.slice C _ cc,.slice D _ dc]) dq ?_ (Qz rfl rfl rfl);intro w4 dn e7 cw;have ah:Ext w2 w4:=cw w2 cx d7;refine ρ ?_;have ba:∀ k,M k->k<w2.heap.size:=λk Z=>by
  rw[<-hM]at Z;rcases Z with Z|Z
  .exact nM (ck k Z) bw.size
  obtain⟨_,_,_,_,h3⟩:=id bt.form;exact(h3 k Z).2
 have ae:(dvR row dv).length=row.length:=by simp[dvR]
 refine Js (fun (k:Nat)=>[(0,.pointer (some ⟨b,0,none⟩)),(1,.int .i64 (r:Int)),(2,.int .i64 (c:Int)),(6,.slice O row.length row.length),(7,.pointer (some ⟨b3,0,none⟩)),(33,.int .i64 (row.length:Int)),(34,.int .i64 (k:Int))])
  (λk w'=>k<=row.length/\Ext w w'/\Blk w' b3 58 [.bool dv.neg,.slice C (Jj dv.num).length cc,.slice D (Jj dv.den).length dc]/\OX 58 3 RtC M w' w.heap.size (.slice O row.length row.length) (mix (dvR row dv) row k)/\RtX M w' (.agg #[.bool dv.neg,.slice C (Jj dv.num).length cc,.slice D (Jj dv.den).length dc]) dv/\w2.heap.size<=w'.heap.size) (λk=>row.length-k) 0 sB ⟨Nat.zero_le _,bw.trans ah,dn,by rw[Jjs];exact bt.ext RtC.sta ah,ca.ext ah,ah.size⟩ ?_
 rintro k w5 ⟨Z,ar,b1,a9,ax,am⟩;have bo:(mix (dvR row dv) row k).length=row.length:=Kw ae Z;refine ρ ?_;refine ci (λh=>?_) (λh=>?_)
 .have y:k<row.length:=by have:=oT h;omega
  clear h;obtain⟨O2,_,_,ev,_,b5,c9⟩:=id a9.el;rw[bo]at ev b5;injection ev with ev1 ev2 ev3
  subst ev1;obtain⟨ce,e1,be,bf⟩:=c9 k om;have ab:row[k]?=some row[k]:=gE y;have e2:(mix (dvR row dv) row k)[k]'(by omega)=row[k]:=by
   have:=Jbc ae y;rw[List.getElem?_eq_getElem om,ab]at this;injection this
  rw[e2]at be;obtain⟨E2,y1,F2,y2,rfl,c1⟩:=be.sl;have b4:=hs.row row c2 row[k] (List.getElem_mem _);have b2:(dvR row dv)[k]?=some (if row[k].sign≠0 then PR.div row[k] dv else row[k]):=by simp[dvR,ab]
  refine ρ ?_;refine ixq 3 k b5 y ?_;refine ρ ?_;refine lds (λj u hu=>bf j u hu) ?_;refine ρ ?_;refine cl (Ga c1 b4.len) ?_;rintro _ w6 ⟨rfl,ak⟩;refine ρ ?_;refine ci (λh=>?_) (λh=>?_)
  .have bj:row[k].sign≠0:=λe=>by rw[e]at h;simp at h
   rw[if_pos bj]at b2;have a8:Ext w6 w6.drew:=(Ext.refl w6).drew;have a4:=ak.trans a8;refine ρ ?_;refine drH (λi=>i == 12) ?_;refine Ux (fuel':=2) 14 [(0,0),(0,1),(0,2),(0,3),(0,4),(0,5),(0,6),(1,7),(0,8),(0,9),(0,11)] #[true,true,true,true,true,true,true,true,true,true,false,true,false] kr kr rfl ?_;refine ρd ?_;refine Xc 3 k (b5.ext a4) y ?_;refine ρd ?_;refine Qb (λj u hu=>Zz a4 (bf j u hu)) ?_;refine ρd ?_;refine Qb (cs:=[.bool dv.neg,.slice C _ cc,.slice D _ dc]) (λj u hu=>(b1.ext a4).at hu) ?_;refine ρd ?_;have f1:=b4.n;have f2:=b4.d;have f3:=bl.n;have f4:=bl.d;have f5:row[k].den*dv.num<=120*720:=Nat.mul_le_mul f2 f3;refine dcl (Jsj (c1.ext a4) (ax.ext a4) hz b4.d0 bl.d0 om om om om om) ?_;rintro _ w7 ⟨⟨x7,rfl,d8⟩,a3⟩;refine⟨a3,?_⟩;have B:=a4.trans a3;obtain⟨G1,g1,G2,g2,rfl,cg⟩:=d8.cell;refine ρd ?_
   refine Xc 3 k (b5.ext B) y ?_;refine ρd ?_;refine Yq ?_;refine Jwf 10 12 kr rfl rfl rfl ?_ ?_
   .refine ρ ?_;refine Xv (λ_=>Ext.refl _) ?_;refine Vl 12 kr rfl rfl ?_;refine stX RtC.sta (a9.ext RtC.sta B) bo.symm (show k<_ by omega) (cs:=[.bool (PR.div row[k] dv).neg,.slice G1 _ g1,.slice G2 _ g2]) (a:=PR.div row[k] dv) (RtC.sta.old cg λj hj=>.inl (nM (ba j hj) (nL am a4.size))) ag (Qz rfl rfl rfl) ?_;intro w8 aa a1;rw[Kk ae y b2]at aa;have aw:GrN M w7 w8:=GrN.by a1 ag
    refine ρ ?_;refine Xv (λh=>absurd h (by decide)) ?_;refine Vz kr ?_;refine ρ ?_;refine Jp (k+1) sO ⟨om,Ja (ar.trans B) a1 (λg hg=>az hg),(b1.ext B).grown a1 ?_,aa,(ax.ext B).gr aw,Nat.le_trans am (nL B.size a1.size)⟩ om;intro e;have h1:=ba b3 (ag b3 e.symm);omega
   refine ρ ?_;refine stX RtC.sta (a9.ext RtC.sta B) bo.symm (show k<_ by omega) (cs:=[.bool (PR.div row[k] dv).neg,.slice G1 _ g1,.slice G2 _ g2]) (a:=PR.div row[k] dv) (RtC.sta.old cg λj hj=>.inl (nM (ba j hj) (nL am a4.size))) ag (Qz rfl rfl rfl) ?_;intro w8 aa a1;rw[Kk ae y b2]at aa;have aw:GrN M w7 w8:=GrN.by a1 ag
   refine ρ ?_;refine Xv (λh=>absurd h (by decide)) ?_;refine Vl 10 kr rfl rfl ?_;refine ρ ?_;refine Xv (λ_=>Ext.refl _) ?_;refine Vz kr ?_;refine ρ ?_;refine Jp (k+1) sO ⟨om,Ja (ar.trans B) a1 (λg hg=>az hg),(b1.ext B).grown a1 ?_,aa,(ax.ext B).gr aw,Nat.le_trans am (nL B.size a1.size)⟩ om;intro e;have h1:=ba b3 (ag b3 e.symm);omega
  have bj:row[k].sign=0:=by simpa using h
  have ds:(dvR row dv)[k]?=row[k]?:=by rw[b2,ab,if_neg (by simp[bj])]
  rw[Jgm ae y ds]at a9;refine ρ ?_;exact Jp (k+1) sO ⟨om,ar.trans ak,b1.ext ak,a9.ext RtC.sta ak,ax.ext ak,Nat.le_trans am ak.size⟩ om
 have bq:k=row.length:=by have:=oF h;omega
 clear h Z;subst bq;rw[Jkz ae]at a9;have c4:dvR row dv=pvr t r c:=by unfold pvr;rw[hrow,hdd]
 have c5:(pvr t r c).length=row.length:=by rw[<-c4];exact ae
 rw[c4]at a9;have cm:=hT.ext ar;have d4:GX 3 RtC (TN b (.slice R t.rows.length rc) vb) w5 (.slice O row.length row.length) (pvr t r c):=a9.gx RtC.sta om λk Z=>⟨by rw[<-hM];exact .inl Z,d9 k Z⟩;clear a9 ax b1 am;refine ρ ?_;refine ld (cm.blk.at (i:=2) rfl) ?_;have cz:pvr t r c∈(t.pivot r c).rows:=by rw[<-Jsl t a5];exact List.mem_set (by rw[Gw];exact a5) _
 have bz:∀ q∈pvr t r c,Sl q:=hs'.row _ cz;have J:∀ i (hi:i<t.rows.length),t.rows[i].length=row.length:=λi hi=>by
  have:=(hp.row i (by rw[<-hp.rows];exact hi)).1;rw[List.getD,List.getElem?_eq_getElem hi,bm]at this;rw[av];exact this
 refine ρ ?_;refine Js (fun (k:Nat)=>[(0,.pointer (some ⟨b,0,none⟩)),(1,.int .i64 (r:Int)),(2,.int .i64 (c:Int)),(6,.slice O row.length row.length),(60,.int .i64 (t.rows.length:Int)),(61,.int .i64 (k:Int))])
  (λk w'=>k<=t.rows.length/\TbV w' base b (.slice R t.rows.length rc) vg vb ⟨t.n,t.m,mix (Gu t r c) t.rows k,t.goal,t.basis⟩/\GX 3 RtC (TN b (.slice R t.rows.length rc) vb) w' (.slice O row.length row.length) (pvr t r c)/\GrN (TN b (.slice R t.rows.length rc) vb) w w') (λk=>t.rows.length-k) 0 sB
  ⟨Nat.zero_le _,by rw[Jjs];exact cm,d4,GrN.ext ar⟩ ?_
 rintro k w6 ⟨Z,ap,b9,hg6⟩;have bn:(mix (Gu t r c) t.rows k).length=t.rows.length:=Kw (Gw t r c) Z;refine ρ ?_;refine ci (λh=>?_) (λh=>?_)
 .have y:k<t.rows.length:=by have:=oT h;omega
  clear h;have ab:t.rows[k]?=some t.rows[k]:=gE y;have b6:(Gu t r c)[k]?=some (if k=r then t.rows[k] else Zl t.rows[k] (pvr t r c) (t.rows[k].getD c pr0)):=by simp[Gu,ab]
  refine ρ ?_;refine ci (λh=>?_) (λh=>?_)
  .have bp:k≠r:=λe=>by subst e;simp at h
   rw[if_neg bp]at b6;have a8:Ext w6 w6.drew:=(Ext.refl w6).drew;have a2:=ap.ext a8;have aq:=b9.ext RtC.sta (by decide) a8;obtain⟨R',cu,_,ev,_,a6,bi⟩:=id a2.rows.el;simp only[bn]at ev a6 bi;injection ev with ev1 ev2 ev3
   subst ev1;obtain⟨ce,dz,⟨vk,rfl,bu⟩,d6⟩:=bi k y;have e2:(mix (Gu t r c) t.rows k)[k]'(by omega)=t.rows[k]:=by
    have:=Jbc (Gw t r c) y;rw[List.getElem?_eq_getElem om,ab]at this;injection this
   rw[e2]at bu;obtain⟨K,kc,_,ek,e6,_,cq,_,dj⟩:=id bu.el;rw[J k y]at ek cq;subst ek;obtain⟨ce,dx,bd,b8⟩:=dj c (by rw[J k y];exact af);have bc:t.rows[k][c]'(by rw[J k y];exact af)=t.rows[k].getD c pr0:=by simp[List.getD,List.getElem?_eq_getElem (show c<t.rows[k].length by rw[J k y];exact af)]
   rw[bc]at bd;have c0:Sl (t.rows[k].getD c pr0):=by rw[<-bc];exact hs.row _ (List.getElem_mem _) _ (List.getElem_mem _)
   obtain⟨E1,x1,E2,x2,rfl,d1⟩:=bd.sl;have bg:w6.drew.cell? (adr R k)=some (.slice K row.length kc):=by
    have:=d6 0 _ rfl;rwa [Nat.mul_one,add_zero]at this
   refine ρ ?_;refine dr [(0,0),(0,1),(0,2),(0,3),(0,4),(0,5),(0,6),(0,7),(0,8),(0,9),(0,10),(0,11),(0,12),(0,13),(0,14),(0,15),(0,16),(0,17),(0,18),(0,19),(0,20),(0,21),(0,22),(1,23),(0,24),(2,25)] kr ?_;refine ρd ?_;refine dld (a2.blk.at (i:=2) rfl) ?_;refine ρd ?_;refine dld (a2.blk.at (i:=2) rfl) ?_;refine ρd ?_;refine dix k a6 y ?_;refine ρd ?_;refine dld bg ?_;refine ρd ?_;refine dld (a2.blk.at (i:=2) rfl) ?_;refine ρd ?_;refine dix k a6 y ?_;refine ρd ?_;refine dld bg ?_;refine ρd ?_;refine Xc 3 c cq af ?_;refine ρd ?_;refine Qb (λj u hu=>b8 j u hu) ?_;refine ρd ?_;refine dcl (Qwb bu aq d1 a2.lt (by rw[c5,J k y]) (by rw[J k y];omega) (by rw[J k y];omega) (hs.row _ (List.getElem_mem _)) bz c0) ?_;rintro u w7 ⟨hU,a3⟩;refine⟨a3,?_⟩;have ao:=a2.ext a3;obtain⟨U,uc,_,rfl,_,_,_,_,_⟩:=id hU.el;refine ρd ?_;refine dix k (a6.ext a3) y ?_;refine ρd ?_;refine Jd ?_
   refine stX1 MxC.sta ao.rows bn.symm (show k<_ by rw[bn];exact y) (u:=.slice U _ uc) (a:=Zl t.rows[k] (pvr t r c) (t.rows[k].getD c pr0)) ⟨_,rfl,hU⟩ (λg hg=>.inr (.inl hg)) rfl ?_;intro w8 aa a1;rw[Kk (Gw t r c) y b6]at aa;have an:=ao.rowsT aa a1;have a7:GrN (TN b (.slice R t.rows.length rc) vb) w7 w8:=GrN.by a1 λk Z=>.inr (.inl Z)
   refine ρ ?_;exact Jp (k+1) sO ⟨om,an,(aq.ext RtC.sta (by decide) a3).gr RtC.sta (by decide) a7,(hg6.trans (GrN.ext (a8.trans a3))).trans a7⟩ om
  have bp:k=r:=by
   have:((k:Int) == (r:Int))=true:=by simpa using h
   have:=eq_of_beq this;omega
  rw[if_pos bp]at b6;rw[Jgm (Gw t r c) y (by rw[b6,ab])]at ap;refine ρ ?_;exact Jp (k+1) sO ⟨om,ap,b9,hg6⟩ om
 have bq:k=t.rows.length:=by have:=oF h;omega
 clear h Z;subst bq;rw[Jkz (Gw t r c)]at ap;have a8:Ext w6 w6.drew:=(Ext.refl w6).drew;have a2:=ap.ext a8;have aq:=b9.ext RtC.sta (by decide) a8;have b7:=hp.goal.1;rw[bm]at b7;obtain⟨G,gc,_,rfl,_,_,dl,_,dk⟩:=id a2.goal.el;have br:c<t.goal.length:=om
 obtain⟨ce,dw,bh,cd⟩:=dk c br;have bb:t.goal[c]=t.goal.getD c pr0:=by simp[List.getD,List.getElem?_eq_getElem br]
 simp only[bb]at bh;have cy:Sl (t.goal.getD c pr0):=by rw[<-bb];exact hs.goal _ (List.getElem_mem _)
 obtain⟨E1,x1,E2,x2,rfl,d2⟩:=bh.sl;refine ρ ?_;refine drC 18 [0,1,5,6,10] [(0,2),(0,3),(0,4),(0,7),(0,8),(0,9),(0,11),(0,12),(1,13),(0,14),(0,15),(2,16)] kr ?_;refine ρp ?_;refine ρd ?_;refine dld (a2.blk.at (i:=3) rfl) ?_;refine ρd ?_;refine dld (a2.blk.at (i:=3) rfl) ?_;refine ρd ?_;refine Xc 3 c dl br ?_;refine ρd ?_;refine Qb (λj u hu=>cd j u hu) ?_;refine ρd ?_;refine dcl (Qwb a2.goal aq d2 a2.lt (by rw[c5,b7,av]) (by rw[b7];omega) (by rw[b7];omega) hs.goal bz cy) ?_;rintro u w7 ⟨hU,a3⟩;refine⟨a3,?_⟩;have ao:=a2.ext a3;obtain⟨U,uc,_,rfl,_,_,_,_,_⟩:=id hU.el;refine ρd ?_;refine Jd ?_;refine stF (i:=3) ao.blk rfl ?_;intro w8 cr a1;have a7:GrN (TN b (.slice R t.rows.length rc) vb) w7 w8:=GrN.by a1 λk Z=>by injection Z with Z;exact .inl Z.symm
 have an:=ao.goalT (vg':=.slice U _ uc) (goal':=Zl t.goal (pvr t r c) (t.goal.getD c pr0)) cr (hU.gr RtC.sta (by decide) a7) a1;have de:=(aq.ext RtC.sta (by decide) a3).gr RtC.sta (by decide) a7;have c8:=(hg6.trans (GrN.ext (a8.trans a3))).trans a7;clear ao a2 ap aq b9 cr;obtain⟨R',cu,_,ev,_,a6,_⟩:=id an.rows.el;simp only[Gw]at ev a6;injection ev with ev1 ev2 ev3
 subst ev1;refine ρ ?_;refine ld (an.blk.at (i:=2) rfl) ?_;refine ρ ?_;refine ix r a6 a5 ?_;refine ρ ?_;refine stX1 MxC.sta an.rows (Gw t r c).symm (show r<_ by rw[Gw];exact a5) (u:=.slice O row.length row.length) (a:=pvr t r c) ⟨_,rfl,de⟩ (λg hg=>.inr (.inl hg)) rfl ?_;intro w9 cp c7;rw[Jsl t a5]at cp;have ay:=an.rowsT cp c7;have c6:=c8.trans (GrN.by c7 λk Z=>.inr (.inl Z));obtain⟨S,sc,eS,e3,_⟩:=Jv ay.bas;subst eS;have ch:r<t.basis.length:=by rw[hp.basis];exact hr
 refine ρ ?_;refine ld (ay.blk.at (i:=4) rfl) ?_;refine ρ ?_;refine ix r (Rd.own ay.bas) ch ?_;refine ρ ?_;obtain⟨s1,s2,s3,s4,s5⟩:=Xp ay.bas (q:=r) (show r<t.basis.length*1 by omega) (.int .i64 (c:Int));refine sto (s1.trans (Qs ch)) s2 ?_;have cj:Qp (w9.setCell (adr S r) (.int .i64 (c:Int))) base (.slice S t.basis.length sc) (t.basis.set r c):=by
  rw[Qp,<-nzS,List.length_set];exact s3
 have cn:=ay.basT cj s5;refine ρ ?_;exact Yx ⟨rfl,_,cn,c6.trans (GrN.by s5 λk Z=>.inr (.inr Z))⟩
open Go.RowKit Pl Go.Wk
variable {cs:List Value}{b base c k n:Nat}{N:Nat->Prop}{p q qc qr:PR}{t:PT}{v vb vg vr:Value}{w:World}
def Uk: Option (Nat×PR)->Int
 | none=>-1
 | some p=>(p.1:Int)
theorem div_le'(hp:p.den≠0)(hq:q.den≠0)(h0:q.norm.num≠0): (PR.div p q).num<=p.num*q.den/\(PR.div p q).den<=p.den*q.num/\(PR.div p q).den≠0:=by
 unfold PR.div;rw[if_neg h0];obtain⟨j,i⟩:=mul_le' (p:=p) (q:=⟨q.norm.neg,q.norm.den,q.norm.num⟩) hp h0;exact⟨nL j (Nat.mul_le_mul_left _ (Uq hq)),Nat.le_trans i (Nat.mul_le_mul_left _ (Iz q)),(PR.mul_val (a:=p) (b:=⟨q.norm.neg,q.norm.den,q.norm.num⟩) hp h0).2⟩
def lvT(t:PT)(k:Nat)(q:PR): Option (Nat×PR)->Bool
 | none=>true
 | some p=>decide (PR.cmp q p.2<0∨(PR.cmp q p.2=0/\t.basis.getD k 0<t.basis.getD p.1 0))
theorem Qrj(hc:(t.rows.getD k []).getD c pr0=qc)(hr:(t.rows.getD k []).getD t.right pr0=qr)(hs:¬ qc.sign<=0): lvS t c (k+1)=if lvT t k (PR.div qr qc) (lvS t c k)=true then some (k,PR.div qr qc) else lvS t c k:=by
 conv=>lhs;unfold lvS
 simp only[hc,hr];rw[if_neg hs];cases lvS t c k with
 | none=>simp[lvT]
 | some p=>
  simp only[lvT,decide_eq_true_eq]
theorem Qdx(h:0<q.sign): q.num≠0:=λe=>by unfold PR.sign at h;rw[if_pos e]at h;omega
theorem Jtz(h:q.num≠0): q.norm.num≠0:=by
 unfold PR.norm;split
 .exact h
 have i:=Nat.gcd_dvd_left q.num q.den;obtain⟨k,j⟩:=i;show q.num / Nat.gcd q.num q.den≠0;have u:0<Nat.gcd q.num q.den:=Nat.gcd_pos_of_pos_left _ om;intro e;have y:=Nat.div_eq_zero_iff.1 e;have:=Nat.le_of_dvd om (Nat.gcd_dvd_left q.num q.den);omega
theorem NatX.box{t:Nat}(h:NatX N w v n)(hB:Blk w b t cs)(hc:∀ u∈cs,∀ z,u≠.int .u32 z): NatX (λk=>N k∨k=b) w v n:=by
 refine⟨h.1,λh0 y m c e i=>?_⟩;rcases i with i|i
 .exact h.2 h0 y m c e i
 obtain⟨A,O,j,_,_,G⟩:=h.1;rw[e]at j;injection j with j _ _
 subst j;have D:=G.cell (Qm (limbs_pos' h0));have J:adr (some y) 0=y:=by rw[adr,add_zero];rfl
 rw[J]at D;obtain⟨U,off,B⟩:=y;simp only at i;subst i;unfold Blk at hB;simp[World.cell?,hB]at D;grind
theorem RtX.bx{t:Nat}(h:RtX N w v q)(hB:Blk w b t cs)(hc:∀ u∈cs,∀ z,u≠.int .u32 z): RtX (λk=>N k∨k=b) w v q:=by
 obtain⟨x,y,e,j,i⟩:=h;exact⟨x,y,e,j.box hB hc,i.box hB hc⟩
theorem no32{b:Bool}{A B:Option Addr}{m m' c':Nat}: ∀ u∈[Value.bool b,.slice A m c,.slice B m' c'],∀ z,u≠.int .u32 z:=λu i z e=>by
 simp only[List.mem_cons,List.not_mem_nil,or_false]at i;rcases i with rfl|rfl|rfl<;>cases e
def SF.dv(N:Nat->Prop)(q:PR): SF:=⟨λv w=>∃ x,v=.tuple #[x,.int .i64 0]/\RtX N w x q,λ⟨x,e,h⟩ hx=>⟨x,e,h.ext hx⟩⟩
def SF.rb(s:Nat): SF:=⟨λv w=>∃ b,v=.pointer (some ⟨b,0,none⟩)/\s<=b/\Blk w b 58 [.bool false,.slice none 0 0,.slice none 0 0],λ⟨b,e,h,hb⟩ hx=>⟨b,e,h,hb.ext hx⟩⟩
theorem Qrt(hT:TbV w base b vr vg vb t)(hp:POk t)(hs:TSl t)(hc:c<t.n+t.m)(hn:t.n<=100)(hm:t.m<=100):
  Ret Tryz.prog 165 [.pointer (some ⟨b,0,none⟩),.int .i64 (c:Int)] w λu w'=>u=.int .i64 (Uk (lvS t c t.m))/\Ext w w':=by
 have cp:=hT.lt;have ch:t.rows.length=t.m:=hp.rows;have D:∀ i (hi:i<t.rows.length),t.rows[i].length=t.n+t.m+2:=λi hi=>by
  have:=(hp.row i (by rw[<-hp.rows];exact hi)).1;rwa [List.getD,List.getElem?_eq_getElem hi]at this
 refine Jz Tryz.func165 Tryz.ntmps165 rfl kr rfl ?_;obtain⟨R,rc,_,rfl,cg,c8,c7⟩:=id hT.rows.el;refine ρ ?_;refine alc Yv ?_;intro w1 b6 ay c0 bn;have c6:=hT.ext ay;refine ρ ?_;refine ld (c6.blk.at (i:=2) rfl) ?_;refine ρ ?_;refine Qq (fun (k:Nat) (ls:List Value)=>[(0,.pointer (some ⟨b,0,none⟩)),(1,.int .i64 (c:Int)),(5,.int .i64 (Uk (lvS t c k))),(6,.pointer (some ⟨b6,0,none⟩)),(15,.slice R t.rows.length rc),(16,.int .i64 (t.rows.length:Int)),(17,.int .i64 (k:Int))])
  (λk ls w'=>k<=t.m/\Ext w w'/\w1.heap.size<=w'.heap.size/\Blk w' b6 58 ls/\ls.length=3/\(∀ u∈ls,u.oneCell'=true)/\∀ p,lvS t c k=some p->RtC (Ol w1) w' ls p.2/\p.2.num<=86400/\p.2.den<=86400/\p.1<t.m) (λk _=>t.m-k) 0 [.bool false,.slice none 0 0,.slice none 0 0] sB ⟨Nat.zero_le _,ay,Nat.le_refl _,bn,rfl,Qz rfl rfl rfl,λp h=>by cases h⟩ ?_
 rintro k ls w2 ⟨hk,a8,ah,au,ax,b4,hI⟩;have l6:=bn.lt;refine ρ ?_;refine ci (λh=>?_) (λh=>?_)
 .have a1:k<t.rows.length:=by have:=oT h;omega
  clear h;have b3:k<t.m:=om
  have bh:=c8.ext a8;obtain⟨ce,cm,⟨vk,rfl,cc⟩,bw⟩:=c7 k a1;obtain⟨K,kc,_,rfl,ck,_,cb,_,bi⟩:=id cc.el;rw[D k a1]at *;have bb:w2.cell? (adr R k)=some (.slice K (t.n+t.m+2) kc):=by
   have:=Zz a8 (bw 0 _ rfl);rwa [Nat.mul_one,add_zero]at this
  have aq:=cb.ext a8;obtain⟨ce,_,b7,ba⟩:=bi c (by rw[D k a1];omega);obtain⟨cr,_,b1,bs⟩:=bi (t.n+t.m+1) (by rw[D k a1];omega);have ec:t.rows[k][c]'(by rw[D k a1];omega)=(t.rows.getD k []).getD c pr0:=by simp[List.getD,List.getElem?_eq_getElem a1,List.getElem?_eq_getElem (show c<t.rows[k].length by rw[D k a1];omega)]
  have er:t.rows[k][t.n+t.m+1]'(by rw[D k a1];omega)=(t.rows.getD k []).getD t.right pr0:=by simp[PT.right,List.getD,List.getElem?_eq_getElem a1,List.getElem?_eq_getElem (show t.n+t.m+1<t.rows[k].length by rw[D k a1];omega)]
  have ac:Sl ((t.rows.getD k []).getD c pr0):=by rw[<-ec];exact hs.row _ (List.getElem_mem _) _ (List.getElem_mem _)
  have ag:Sl ((t.rows.getD k []).getD t.right pr0):=by rw[<-er];exact hs.row _ (List.getElem_mem _) _ (List.getElem_mem _)
  rw[ec]at b7;rw[er]at b1;generalize hqc:(t.rows.getD k []).getD c pr0=qc at *
  generalize hqr:(t.rows.getD k []).getD t.right pr0=qr at *
  obtain⟨E1,x1,E2,x2,rfl,bc⟩:=b7.sl;obtain⟨F1,y1,F2,y2,rfl,bt⟩:=b1.sl;refine ρ ?_;refine ix k bh a1 ?_;refine ρ ?_;refine ld bb ?_;refine ρ ?_;refine ixq 3 c aq om ?_;refine ρ ?_;refine lds (λj u hu=>Zz a8 (ba j u hu)) ?_;refine ρ ?_;refine cl (Ga (bc.ext a8) ac.len) ?_;rintro _ w3 ⟨rfl,Z⟩;have an:=a8.trans Z;refine ρ ?_;refine ci (λh=>?_) (λh=>?_)
  .have av:qc.sign<=0:=oT h;have e:lvS t c (k+1)=lvS t c k:=by
    conv=>lhs;unfold lvS
    simp only[hqc];rw[if_pos av]
   refine ρ ?_;refine Ju (k+1) ls (by rw[e];exact sO) ⟨om,an,Nat.le_trans ah Z.size,au.ext Z,ax,b4,λp a2=>?_⟩ om;rw[e]at a2;obtain⟨h1,h2⟩:=hI p a2;exact⟨RtC.sta.gr h1 (GrN.ext Z),h2⟩
  have av:¬ qc.sign<=0:=oF h;have a4:Ext w3 w3.drew:=(Ext.refl w3).drew;have a3:=an.trans a4;have ap:=aq.ext (Z.trans a4);have b2:qc.norm.num≠0:=Jtz (Qdx om);have f1:=ag.n;have f2:=ag.d;have f3:=ac.n;have f4:=ac.d;have f5:qr.den*qc.num<=120*720:=Nat.mul_le_mul f2 f3;have f6:qr.num*qc.den<=720*120:=Nat.mul_le_mul f1 f4;obtain⟨g1,g2,g3⟩:=div_le' ag.d0 ac.d0 b2;have c5:=hT.ext a3;have aw:w1.heap.size<=w3.drew.heap.size:=nL ah (Z.trans a4).size;refine ρ ?_;refine drH (λi=>i == 14 || i == 15) ?_;refine Ux (fuel':=10) 17 [(0,0),(0,1),(0,5),(0,6),(0,7),(0,8)] #[true,true,false,false,false,true,true,true,true,false,false,false,false,false,false,false] kr kr rfl ?_;refine ρd ?_;refine Xc 3 c ap om ?_;refine ρd ?_;refine Qb (λj u hu=>Zz a3 (ba j u hu)) ?_;refine ρd ?_;refine Yq ?_;refine hcut 1 (lst 16 15) (fun (y:Nat×List Value)=>[(40,.int .i64 0),(9,.pointer (some ⟨y.1,0,none⟩)),(0,.pointer (some ⟨b,0,none⟩)),(1,.int .i64 (c:Int)),(5,.int .i64 (Uk (lvS t c k))),(6,.pointer (some ⟨b6,0,none⟩)),(7,.int .i64 (k:Int)),(15,.slice R t.rows.length rc),(16,.int .i64 (t.rows.length:Int)),(17,.int .i64 (k:Int))])
   (λy W=>Ext w3.drew W/\w3.drew.heap.size<=y.1/\Blk W y.1 58 y.2/\y.2.length=3/\RtC (λk=>Ol w1 k∨k=y.1) W y.2 (PR.div qr qc)) ?_ ?_
  rotate_left
  .intro rest;have bo:∀ {v4:World} {x:Value} {b9:Nat},Ext w3.drew v4->RtX (Ol w1) v4 x (PR.div qr qc)->w3.drew.heap.size<=b9->Blk v4 b9 58 [.bool false,.slice none 0 0,.slice none 0 0]->∃ cs:List Value,x=.agg cs.toArray/\cs.length=3/\(∀ u∈cs,u.oneCell'=true)/\∀ {v5:World},Blk v5 b9 58 cs->v4.grownBy v5 (some b9)->RtC (λk=>Ol w1 k∨k=b9) v5 cs (PR.div qr qc):=fun {v4 x b9} hx hX hb hB=>by
    obtain⟨A',c',B',d',rfl,c2,c1⟩:=(hX.bx hB no32).sl;refine⟨_,rfl,rfl,Qz rfl rfl rfl,fun {v5} hB5 hg=>?_⟩;have b5:GrN (λk=>Ol w1 k∨k=b9) v4 v5:=GrN.by hg λk ek=>by injection ek with ek;exact .inr ek.symm
    exact⟨_,_,rfl,c2.gr b5,c1.gr b5⟩
   refine Qxj 17 12 2 _ #[true,true,true,true,true,true,true,true,true,true,true,true,true,true,false,false] [2,3,4,9,10,11,12,13] [31,32,33,38,28,39,40,9] [SF.eq (.int .i64 ((t.n+t.m+1:Nat):Int)),SF.eq (.pointer (some (adr K ((t.n+t.m+1)*3)))),SF.eq (.agg #[.bool qr.neg,.slice F1 (Jj qr.num).length y1,.slice F2 (Jj qr.den).length y2]),SF.dv (Ol w1) (PR.div qr qc),SF.dv (Ol w1) (PR.div qr qc),SF.rx (Ol w1) (PR.div qr qc),SF.eq (.int .i64 0),SF.rb w3.drew.heap.size] kr (by rfl) ?_ ?_ ?_
   .refine gsc (λvs v1 B hd=>?_) ?_
    .simp only[slM];refine cl (Jjf (c5.ext B).blk rfl rfl om om) ?_;rintro _ v2 ⟨rfl,O⟩;exact Je (Xs O rfl)
    refine gsc (λvs v1 B hd=>?_) ?_
    .have e0:vs 0=_:=hd 0;simp only[slM,e0];refine ixq 3 (t.n+t.m+1) (ap.ext B) om ?_;exact Je (Xs (Ext.refl _) rfl)
    refine gsc (λvs v1 B hd=>?_) ?_
    .have e0:vs 1=_:=hd 1;simp only[slM,e0];refine lds (λj u hu=>Zz (a3.trans B) (bs j u hu)) ?_;exact Je (Xs (Ext.refl _) rfl)
    refine gsc (λvs v1 B hd=>?_) ?_
    .have e0:vs 2=_:=hd 2;simp only[slM,e0];refine cl (Jsj (bt.ext (a3.trans B)) (bc.ext (a3.trans B)) b2 ag.d0 ac.d0 om om om om om) ?_;rintro _ v2 ⟨⟨x,rfl,hX⟩,O⟩;exact Je (Xs O ⟨x,rfl,hX.old λj hj=>.inl (nM hj (nL aw B.size))⟩)
    refine gsc (λvs v1 B hd=>?_) ?_
    .obtain⟨x,e0,hX⟩:=hd 3;simp only[slM,e0];refine ρ ?_;exact Xs (Ext.refl _) ⟨x,rfl,hX⟩
    refine gsc (λvs v1 B hd=>?_) ?_
    .obtain⟨x,e0,hX⟩:=hd 4;simp only[slM,e0];refine ρ ?_;exact Xs (Ext.refl _) hX
    refine gsc (λvs v1 B hd=>?_) ?_
    .obtain⟨x,e0,hX⟩:=hd 4;simp only[slM,e0];refine ρ ?_;exact Xs (Ext.refl _) rfl
    refine gsc (λvs v1 B hd=>?_) gse
    simp only[slM];refine alc Yv ?_;intro v2 b9 O G J;exact Je (Xs O ⟨b9,rfl,Nat.le_trans B.size G,J⟩)
   .intro vs v1 B hd;obtain⟨b9,e7,G,J⟩:=hd 7;have hX:RtX (Ol w1) v1 (vs 5) (PR.div qr qc):=hd 5;have e6:vs 6=_:=hd 6;obtain⟨cs,e5,hl,h1,aa⟩:=bo B hX G J;simp only[slM,e7,e5,e6];refine Vl 14 kr rfl rfl ?_;refine stb J ?_ h1 (by simp[hl]) rfl rfl (by rw[hl]);intro v2 a7 hg2 O;refine Je (Xv (λh=>by cases h) ?_);refine hlist (listed':=lst 16 15) kr ?_;exact rest (b9,cs) _ _ ⟨O _ B G,G,a7,hl,aa a7 hg2⟩ sB
   intro _ vs v1 B hd;obtain⟨b9,e7,G,J⟩:=hd 7;have hX:RtX (Ol w1) v1 (vs 5) (PR.div qr qc):=hd 5;obtain⟨x4,e4,co⟩:=hd 4;obtain⟨cs,e5,hl,h1,aa⟩:=bo B hX G J;simp only[slM,e7,e5,e4];refine Jwf 12 14 kr rfl rfl rfl ?_ ?_
   .refine ρ ?_;refine Xv (λ_=>Ext.refl _) ?_;refine Vl 14 kr rfl rfl ?_;refine stb J ?_ h1 (by simp[hl]) rfl rfl (by rw[hl]);intro v2 a7 hg2 O;refine Je (Xv (λh=>by cases h) ?_);refine hlist (listed':=lst 16 15) kr ?_;exact rest (b9,cs) _ _ ⟨O _ B G,G,a7,hl,aa a7 hg2⟩ sB
   refine stb J ?_ h1 (by simp[hl]) rfl rfl (by rw[hl]);intro v2 a7 hg2 O;refine Je (Xv (λh=>by cases h) ?_);refine Vl 12 kr rfl rfl ?_;refine ρ ?_;refine Xv (λ_=>Ext.refl _) ?_;refine hlist (listed':=lst 16 15) kr ?_;exact rest (b9,cs) _ _ ⟨O _ B G,G,a7,hl,aa a7 hg2⟩ sB
  rintro⟨b9,cs⟩ w4 ⟨a5,G,J,b8,bj⟩;simp only at G J b8 bj;refine Vl 15 kr rfl rfl ?_;refine ρ ?_;refine Xv (λ_=>Ext.refl _) ?_;refine Vz kr ?_;have ad:Blk w4 b6 _ ls:=au.ext ((Z.trans a4).trans a5);have am:=a3.trans a5;have c4:=hT.ext am;obtain⟨A9,c9,D9,d9,rfl,bg⟩:=bj.sl;have cj:b6<w4.heap.size:=ad.lt;refine ρ ?_;refine Xn (fun (o:Int)=>[(11,.int .i64 o),(9,.pointer (some ⟨b9,0,none⟩)),(0,.pointer (some ⟨b,0,none⟩)),(1,.int .i64 (c:Int)),(5,.int .i64 (Uk (lvS t c k))),(6,.pointer (some ⟨b6,0,none⟩)),(7,.int .i64 (k:Int)),(15,.slice R t.rows.length rc),(16,.int .i64 (t.rows.length:Int)),(17,.int .i64 (k:Int))])
   (λo W=>Ext w4 W/\o=match lvS t c k with|none=>-1|some p=>PR.cmp (PR.div qr qc) p.2) ?_ ?_
  .refine ci (λh=>?_) (λh=>?_)
   .have h1:0<=Uk (lvS t c k):=oT h;obtain⟨p,a6⟩:∃ p,lvS t c k=some p:=by
     cases e:lvS t c k with
     | none=>rw[e]at h1;simp[Uk]at h1
     | some p=>exact⟨p,rfl⟩
    obtain⟨i1,i2,i3,i4⟩:=hI p a6;obtain⟨P1,p1,P2,p2,rfl,ca⟩:=i1.sl;refine ρ ?_;refine ldW J ?_;refine ρ ?_;refine ldW ad ?_;refine ρ ?_;refine cl (Qgz bg (ca.ext ((Z.trans a4).trans a5)) (λj hj=>?_) (λj hj=>nM hj (nL aw a5.size)) om om om om) ?_
    .rcases hj with hj|hj
     .exact nM hj (nL aw a5.size)
     rw[hj];exact J.lt
    rintro _ w5 ⟨rfl,af⟩;refine ρ ?_;exact Jg _ sB ⟨af,by rw[a6]⟩
   have h1:¬ 0<=Uk (lvS t c k):=oF h;have e:lvS t c k=none:=by
    cases e:lvS t c k with
    | none=>rfl
    | some p=>rw[e]at h1;simp[Uk]at h1
   refine ρ ?_;exact Jg _ sB ⟨Ext.refl _,by rw[e]⟩
  rintro o w5 ⟨af,ho⟩;have ae:Ext w5 w5.drew:=(Ext.refl w5).drew;have ai:=c4.ext (af.trans ae);obtain⟨S,sc,eS,cd,_⟩:=Jv ai.bas;have aj:=Rd.own (show w5.drew.ownsRow base 3 1 (.slice S t.basis.length sc) t.basis.length (Jb (nz t.basis)) by rw[<-eS];exact ai.bas);have cn:t.basis.length=t.m:=hp.basis;subst eS;refine ρ ?_;refine Xn (fun (tk:Bool)=>[(68,.bool tk),(9,.pointer (some ⟨b9,0,none⟩)),(0,.pointer (some ⟨b,0,none⟩)),(1,.int .i64 (c:Int)),(5,.int .i64 (Uk (lvS t c k))),(6,.pointer (some ⟨b6,0,none⟩)),(7,.int .i64 (k:Int)),(15,.slice R t.rows.length rc),(16,.int .i64 (t.rows.length:Int)),(17,.int .i64 (k:Int))])
   (λtk W=>Ext w5 W/\tk=lvT t k (PR.div qr qc) (lvS t c k)) ?_ ?_
  .refine dr [(0,0),(0,1),(0,2),(0,3),(0,4),(0,5),(0,6),(0,7),(0,8),(0,9),(0,10),(0,11),(0,12),(0,13),(0,14),(0,15),(0,16),(0,17),(0,18),(0,19),(0,20),(0,21),(0,22)] kr ?_;refine ρd ?_;refine dki 48 (λh=>?_) (λh=>?_)
   .have h1:o<0:=oT h;refine ρd ?_;refine Jg true sB ⟨ae,?_⟩;cases e:lvS t c k with
    | none=>rfl
    | some p=>rw[e]at ho;simp only at ho;simp[lvT];left;omega
   have h1:¬ o<0:=oF h;obtain⟨p,a6⟩:∃ p,lvS t c k=some p:=by
    cases e:lvS t c k with
    | none=>rw[e]at ho;simp only at ho;omega
    | some p=>exact⟨p,rfl⟩
   obtain⟨_,_,_,i4⟩:=hI p a6;rw[a6]at ho;simp only at ho;have bz:Uk (lvS t c k)=(p.1:Int):=by rw[a6];rfl
   refine ρd ?_;refine dki 51 (λh=>?_) (λh=>?_)
   .have h2:o=0:=by simpa using h
    refine ρd ?_;refine dld (ai.blk.at (i:=4) rfl) ?_;refine ρd ?_;have be:k<t.basis.length:=om
    have bd:p.1<t.basis.length:=om
    refine dix k aj be ?_;refine ρd ?_;refine dld (aj.cell (Qs be)) ?_;refine ρd ?_;refine dld (ai.blk.at (i:=4) rfl) ?_;refine ρd ?_;refine dkv 63 (u:=.int .i64 (p.1:Int)) (congrArg (Value.int .i64) bz) ?_;refine dix p.1 aj bd ?_;refine ρd ?_;refine dld (aj.cell (Qs bd)) ?_;refine ρd ?_;refine Jg (decide (((t.basis.getD k 0:Nat):Int)<((t.basis.getD p.1 0:Nat):Int))) sB ⟨ae,?_⟩;rw[a6];simp only[lvT];rw[decide_eq_decide];omega
   have h2:¬ o=0:=by simpa using h
   refine ρd ?_;refine Jg false sB ⟨ae,?_⟩;rw[a6];simp only[lvT];symm
   rw[decide_eq_false_iff_not];omega
  rintro tk w6 ⟨bq,br⟩;have a9:=Qrj hqc hqr av;rw[<-br]at a9;have U:=af.trans bq;have ak:=am.trans U;have ar:=ad.ext U;have bl:=J.ext U;have bf:=bg.ext U;refine ρ ?_;refine ci (λh=>?_) (λh=>?_)
  .rw[if_pos h]at a9;have ab:Ext w6 w6.drew:=(Ext.refl w6).drew;refine ρ ?_;refine dr [(0,0),(0,1),(0,2),(2,3)] kr ?_;refine ρd ?_;refine Qb (λj u hu=>(bl.ext ab).at hu) ?_;refine ρd ?_;refine Jd ?_;refine stb (cs':=[.bool (PR.div qr qc).neg,.slice A9 _ c9,.slice D9 _ d9]) (ar.ext ab) ?_ (Qz rfl rfl rfl) (by rw[ax];rfl);intro w7 bm hg7 bp;have az:Ext w w7:=bp w (ak.trans ab) c0;obtain⟨_,_,ee,e1,e2⟩:=(bf.ext ab);injection ee with ee
   injection ee with ee
   injection ee with _ ee
   injection ee with ea ee
   injection ee with eb _
   subst ea;subst eb;have ao:GrN (λk=>Ol w1 k∨k=b9) w6.drew w7:=GrN.by hg7 λj ej=>by injection ej with ej;subst ej;exact .inl l6
   refine ρ ?_;refine Ju (k+1) [.bool (PR.div qr qc).neg,.slice A9 _ c9,.slice D9 _ d9] (by rw[a9];exact sO) ⟨om,az,Nat.le_trans ah (nL (Z.trans a4).size (nL a5.size (nL U.size (nL ab.size hg7.size)))),bm,rfl,Qz rfl rfl rfl,λp a2=>?_⟩ om;rw[a9]at a2;injection a2 with a2
   subst a2;exact⟨RtC.sta.old ⟨_,_,rfl,e1.gr ao,e2.gr ao⟩ λj hj=>.inl (.inl hj),by show(PR.div qr qc).num<=_;omega,by show(PR.div qr qc).den<=_;omega,b3⟩
  rw[if_neg (by rw[h];decide)]at a9;refine ρ ?_;refine Ju (k+1) ls (by rw[a9];exact sO) ⟨om,ak,Nat.le_trans ah (nL (Z.trans a4).size (nL a5.size U.size)),ar,ax,b4,λp a2=>?_⟩ om;rw[a9]at a2;obtain⟨h1,h2⟩:=hI p a2;exact⟨RtC.sta.gr h1 (GrN.ext (((Z.trans a4).trans a5).trans U)),h2⟩
 have bu:k=t.m:=by have:=oF h;omega
 subst bu;refine ρ ?_;exact Jq ⟨rfl,a8⟩
end Go.Proofs.YtebiphhfkdbpfaaGreatDoor
namespace Go.Wk
variable {al:AL}{Q:Exit->Act->World->Prop}{l n:Nat}{P:Program}{w:World}
theorem wlab(h:QX n Q .normal al w): WC P n (.label l) Q al w:=λa i=>wp_label (h a i)
theorem Qym{c:Code}(h:WC P n c (Exit.noGoto Q) al w): WC P n (.scope c) Q al w:=λa i=>wp_scope_straight (h a i)
theorem xret(h:QX n Q .ret al w): QX n (Exit.noGoto Q) .ret al w:=h
end Go.Wk
namespace Go.Proofs.YtebiphhfkdbpfaaGreatDoor
open Go.RowKit Pl Go.Wk Bl
attribute [local irreducible] WC WL QX WD WDB WP WN WG WH
variable {cols j m n:Nat}{t t':PT}{S T0:QT}
theorem Xjk(hj:j<cols)(h:(t.goal.getD j pr0).sign<0)(h0:∀ i,i<j->¬ (t.goal.getD i pr0).sign<0): t.enter cols=some j:=by
 unfold PT.enter;induction cols with
 | zero=>omega
 | succ n ih=>
  rw[List.range_succ,List.find?_append];rcases Nat.lt_or_ge j n with h1|h1
  .rw[ih h1];rfl
  have e:j=n:=om
  subst e;have:(List.range j).find? (λj=>decide ((t.goal.getD j pr0).sign<0))=none:=by
   rw[List.find?_eq_none];intro i hi;simpa using h0 i (List.mem_range.1 hi)
  rw[this];simp only[List.find?_cons,h,decide_true];rfl
theorem Xjl(h0:∀ i,i<cols->¬ (t.goal.getD i pr0).sign<0): t.enter cols=none:=by
 unfold PT.enter;rw[List.find?_eq_none];intro i hi;simpa using h0 i (List.mem_range.1 hi)
theorem Qbv{q:PR}(h:q.val≠0): q.num≠0:=λe=>h (by
 unfold PR.val;rw[e];have:((0:Nat):Rat)=0:=rfl;rw[this];split<;>grind)
theorem Qbz(h:PSt n m T0 t S)(h0:∀ i j,i<m->j<n+m->isI (T0.a i j) 1)(h1:∀ i,i<m->isI (T0.b i) 1)(h2:∀ j,j<n+m->isI (T0.g j) 1)(hz:T0.z=0)(hnm:0<n+m)(hm:m<=5): TSl t:=by
 obtain⟨hr,hg⟩:=h.small h0 h1 h2 hz hnm;have a2:fct (m+1)<=720:=nL (Jwp (show m+1<=6 by omega)) (by decide);have a1:fct m<=120:=nL (Jwp hm) (by decide);have hn:=h.en;have G:=h.em;have B:=h.agr.ok;refine⟨λl hl q D=>?_,λq D=>?_⟩
 .obtain⟨i,hi,rfl⟩:=List.getElem_of_mem hl;have O:i<m:=by rw[<-G,<-B.rows];exact hi
  obtain⟨y,Z⟩:=B.row i om;have e1:t.rows.getD i []=t.rows[i]:=by simp[List.getD,List.getElem?_eq_getElem hi]
  obtain⟨j,J,rfl⟩:=List.getElem_of_mem D;have e2:t.rows[i].getD j pr0=t.rows[i][j]:=by simp[List.getD,List.getElem?_eq_getElem J]
  have U:=hr i j O (by rw[e1]at y;rw[PT.right]at y;omega);have u:=Z j (by rw[e1]at y;omega);rw[e1,e2]at U u;exact⟨u,om,om⟩
 obtain⟨y,Z⟩:=B.goal;obtain⟨j,J,rfl⟩:=List.getElem_of_mem D;have e2:t.goal.getD j pr0=t.goal[j]:=by simp[List.getD,List.getElem?_eq_getElem J]
 have U:=hg j (by rw[PT.right]at y;omega);have u:=Z j om;rw[e2]at U u;exact⟨u,om,om⟩
theorem Qpt{w:World}{base b fuel:Nat}{vr vg vb:Value}(hT:TbV w base b vr vg vb t)(hst:PSt n m T0 t S)(hsl:∀ t S,PSt n m T0 t S->TSl t)(hB:Bnd m (n+m) T0)(hmx:PT.maxim (n+m) fuel t=some t')(hn:n<=100)(hm:m<=100)(hbase:base<=w.heap.size):
  Ret Tryz.prog 94 [.pointer (some ⟨b,0,none⟩),.int .i64 ((n+m:Nat):Int)] w λu w'=>u=.tuple #[.int .i64 0,.bool true]/\∃ vg',TbV w' base b vr vg' vb t'/\GrN (TN b vr vb) w w':=by
 refine Jz Tryz.func94 Tryz.ntmps94 rfl kr rfl ?_;refine ρ ?_;refine Qym ?_;refine wseq ?_;refine wlab ?_;refine ρ ?_;refine Qq (fun (k:Nat) (t:PT)=>[(0,.pointer (some ⟨b,0,none⟩)),(1,.int .i64 ((n+m:Nat):Int))])
  (λk t w'=>PT.maxim (n+m) k t=some t'/\(∃ S,PSt n m T0 t S)/\(∃ vg',TbV w' base b vr vg' vb t)/\GrN (TN b vr vb) w w') (λk _=>k) fuel t ?_ ⟨hmx,⟨S,hst⟩,⟨vg,hT⟩,GrN.refl _ _⟩ ?_
 .exact sB
 rintro k t w1 ⟨hmx,⟨S,hst⟩,⟨vg,hT⟩,a2⟩;have hs:=hsl t S hst;have ok:=hst.agr.ok;have am:=hst.en;have an:=hst.em;obtain⟨k,rfl⟩:∃ j,k=j+1:=by
  cases k with
  | zero=>cases hmx
  | succ j=>exact⟨j,rfl⟩
 have ak:t.goal.length=n+m+2:=by have:=ok.goal.1;rw[PT.right]at this;omega
 refine ρ ?_;refine Js (fun (j:Nat)=>[(0,.pointer (some ⟨b,0,none⟩)),(1,.int .i64 ((n+m:Nat):Int)),(8,.int .i64 ((n+m:Nat):Int)),(9,.int .i64 (j:Int))])
  (λj w'=>j<=n+m/\Ext w1 w'/\∀ i,i<j->¬ (t.goal.getD i pr0).sign<0) (λj=>n+m-j) 0 sB ⟨Nat.zero_le _,Ext.refl _,λi hi=>absurd hi om⟩ ?_
 rintro j w2 ⟨hj,B,a1⟩;have J:=hT.ext B;refine ρ ?_;refine ci (λh=>?_) (λh=>?_)
 .have aa:j<n+m:=by have:=oT h;omega
  clear h;obtain⟨G,gc,_,rfl,_,_,ai,_,ah⟩:=id J.goal.el;obtain⟨ce,_,a6,ae⟩:=ah j om;have e1:t.goal[j]'(by omega)=t.goal.getD j pr0:=by simp[List.getD,List.getElem?_eq_getElem (show j<t.goal.length by omega)]
  have a9:Sl (t.goal.getD j pr0):=by rw[<-e1];exact hs.goal _ (List.getElem_mem _)
  simp only[e1]at a6;obtain⟨E1,x1,E2,x2,rfl,af⟩:=a6.sl;refine ρ ?_;refine ld (J.blk.at (i:=3) rfl) ?_;refine ρ ?_;refine ixq 3 j ai om ?_;refine ρ ?_;refine lds (λi u hu=>ae i u hu) ?_;refine ρ ?_;refine cl (Ga af a9.len) ?_;rintro _ w3 ⟨rfl,D⟩;have a8:=J.ext D;refine ρ ?_;refine ci (λh=>?_) (λh=>?_)
  .have ac:¬ (t.goal.getD j pr0).sign<0:=by have:=oT h;omega
   refine ρ ?_;exact Jp (j+1) sO ⟨om,B.trans D,λi hi=>by
    rcases Nat.lt_or_ge i j with h1|h1
    .exact a1 i h1
    have:i=j:=om
    subst this;exact ac⟩ om
  have a3:(t.goal.getD j pr0).sign<0:=by have:=oF h;omega
  have U:=Xjk aa a3 a1;obtain⟨_,r,y,aj,a7,O⟩:=hst.next hB U;have a5:Uk (lvS t j t.m)=(r:Int):=by
   unfold PT.leaving at y;rw[ok.rows]at y;cases e:lvS t j t.m with
   | none=>rw[e]at y;cases y
   | some p=>rw[e]at y;simp only[Option.map_some,Option.some.injEq]at y;simp[Uk,y]
  have a4:PT.maxim (n+m) k (t.pivot r j)=some t':=by
   rw[PT.maxim,U]at hmx;simp only[y]at hmx;exact hmx
  refine ρ ?_;refine cl (Qrt (c:=j) a8 ok hs om om om) ?_;rintro _ w4 ⟨rfl,Z⟩;rw[a5];refine ρ ?_;refine cl (Qlc (r:=r) (c:=j) (a8.ext Z) ok hs (hsl _ _ O) om om (Jtz (Qbv ?_)) om om (nL hbase (nL a2.size ((B.trans D).trans Z).size))) ?_
  .rw[hst.agr.a r j om om];have:=a7.pos;intro e;rw[e]at this;exact absurd this (by decide)
  rintro _ w5 ⟨rfl,vg',ag,ad⟩;refine ρ ?_;exact Ju k (t.pivot r j) sB ⟨a4,⟨_,O⟩,⟨vg',ag⟩,(a2.trans (GrN.ext ((B.trans D).trans Z))).trans ad⟩ om
 have ab:j=n+m:=by have:=oF h;omega
 subst ab;rw[PT.maxim,Xjl a1]at hmx;injection hmx with hmx
 subst hmx;refine ρ ?_;refine xret ?_;exact Xb ⟨rfl,vg,J,a2.trans (GrN.ext B)⟩
open Go.RowKit Pl Go.Wk Bl
variable {A rows':List (List PR)}{i n:Nat}
theorem Xkn(a b:Int)(w:World): (Instr.build 182 #[(0,.int .i64 a),(1,.int .i64 b)]).run Tryz.prog w=.ok (.agg #[.int .i64 a,.int .i64 b,.slice none 0 0,.slice none 0 0,.slice none 0 0]) w:=kr
theorem Qwz(A:Option Addr)(m c:Nat)(w:World): (Instr.buildSlice 122 1 #[(0,.slice A m c)]).run Tryz.prog w=.ok (.slice (some ⟨w.heap.size,0,none⟩) 1 1) (w.alloc (.cells [.slice A m c].toArray 56)):=kr
theorem Jzl(z:Int)(w:World): (Instr.buildSlice 22 1 #[(0,.int .i64 z)]).run Tryz.prog w=.ok (.slice (some ⟨w.heap.size,0,none⟩) 1 1) (w.alloc (.cells [.int .i64 z].toArray 3)):=kr
theorem GX.nil{α:Type}{sz:Nat}{Φ:(Nat->Prop)->World->List Value->α->Prop}(N:Nat->Prop)(w:World): GX sz Φ N w (.slice none 0 0) ([]:List α):=⟨⟨[],none,0,rfl,rfl,Nat.le_refl _,by simp,Rd.nil,λp i=>by cases i⟩,λh=>absurd rfl h⟩
theorem Qrn{α:Type}(d:α){l k:List α}(h:l.length=k.length)(he:∀ i,i<l.length->l.getD i d=k.getD i d): l=k:=by
 refine List.ext_getElem h λi j u=>?_;have:=he i j;simpa [List.getD,List.getElem?_eq_getElem j,List.getElem?_eq_getElem u] using this
theorem Qmz(hA:Bin n A)(hi:i<A.length): (((mix (A.getD i []++List.replicate (A.length+2) pr0) (List.replicate (n+A.length+2) pr0) n).set (n+i) (PR.int 1)).set (n+A.length) (PR.int (-1))).set (n+A.length+1) (PR.int 1)=(PT.ofP n A).rows.getD i []:=by
 have D:=(hA i hi).1;have B:((PT.ofP n A).rows.getD i []).length=n+A.length+2:=by
  rw[Jkt i hi,List.length_append,List.length_append,D,List.length_map,List.length_range];rfl
 have y:=λj=>Jxm hA.rok i j hi;generalize A.getD i []=a at *
 have u:(mix (a++List.replicate (A.length+2) pr0) (List.replicate (n+A.length+2) pr0) n).length=n+A.length+2:=by
  rw[Kw (by simp[D];omega) (by simp;omega)];simp
 refine Qrn pr0 (by rw[List.length_set,List.length_set,List.length_set,u,B]) λj O=>?_;rw[List.length_set,List.length_set,List.length_set,u]at O;rw[y j];have G:∀(l:List PR) (k:Nat) (x:PR),k<l.length->(l.set k x).getD j pr0=if k=j then x else l.getD j pr0:=λl k x J=>by
  by_cases h:k=j
  .subst h;simp[List.getD,J]
  simp[List.getD,List.getElem?_set_ne h,h]
 rw[G _ _ _ (by rw[List.length_set,List.length_set,u];omega),G _ _ _ (by rw[List.length_set,u];omega),G _ _ _ (by rw[u];omega)];have U:(mix (a++List.replicate (A.length+2) pr0) (List.replicate (n+A.length+2) pr0) n).getD j pr0=if j<n then(a).getD j pr0 else pr0:=by
  unfold mix;rw[Jwh,List.length_take,List.length_append,D,List.length_replicate,Nat.min_eq_left om];by_cases h:j<n
  .rw[if_pos h,if_pos h];simp only[List.getD_eq_getElem?_getD,List.getElem?_take,h,if_true,List.getElem?_append_left (show j<a.length by omega)]
  rw[if_neg h,if_neg h];simp only[List.getD_eq_getElem?_getD,List.getElem?_drop,List.getElem?_replicate];split<;>rfl
 rw[U];by_cases h1:j<n
 .rw[if_neg om,if_neg om,if_neg om,if_pos h1,if_pos h1]
 rw[if_neg h1,if_neg h1];by_cases h2:j<n+A.length
 .rw[if_neg om,if_neg om,if_pos h2];by_cases h3:n+i=j
  .rw[if_pos h3,if_pos om]
  rw[if_neg h3,if_neg om]
 rw[if_neg h2];by_cases h3:j=n+A.length
 .rw[if_neg om,if_pos h3.symm,if_pos h3]
 rw[if_pos om,if_neg h3,if_pos om]
section
variable {w w1 w2:World} {base b:Nat} {vr vr' vg vb vb':Value} {t:PT}
theorem TbV.addRow(hT:TbV w base b vr vg vb t)(ho:OX 56 1 MxC (λk=>TN b vr vb k∨w.heap.size<=k) w1 base vr' rows')(hg:w.grownBy w1 vr.ownBlock)(hn:∀ g,vr'.ownBlock=some g->vr.ownBlock=some g∨w.heap.size<=g)(hB:Blk w2 b 182 [.int .i64 (t.n:Int),.int .i64 (t.m:Int),vr',vg,vb])(hg2:w1.grownBy w2 (some b)): TbV w2 base b vr' vg vb ⟨t.n,t.m,rows',t.goal,t.basis⟩:=by
 have G:=hT.blk.lt;have j:∀ k,TN b vr' vb k->TN b vr vb k∨w.heap.size<=k:=λk i=>by
  rcases i with i|i|i
  .exact .inl (.inl i)
  .rcases hn k i with h|h
   .exact .inl (.inr (.inl h))
   exact .inr h
  exact .inl (.inr (.inr i))
 have B:vr'.ownBlock≠some b:=λe=>by
  rcases hn b e with h|h
  .exact hT.ne1 h
  omega
 obtain⟨ps,_,y,_⟩:=id hT.rows;have O:GrN (λk=>TN b vr vb k∨w.heap.size<=k) w w1:=GrN.by hg λk i=>.inl (.inr (.inl i))
 have J:GrN (λk=>TN b vr vb k∨w.heap.size<=k) w1 w2:=GrN.by hg2 λk i=>by injection i with i;exact .inl (.inl i.symm)
 refine⟨hB,(ho.gr MxC.sta (M:=λk=>k=b) (GrN.by hg2 λk i=>by injection i with i;exact i.symm) λk i=>⟨.inl (.inl i),λe=>B (by rw[e,i])⟩).old MxC.sta λk i=>.inl (j k i),?_,?_⟩
 .exact(((hT.goal.old RtC.sta (by decide) (λk i=>i)).gr RtC.sta (by decide) O).gr RtC.sta (by decide) J).old RtC.sta (by decide) λk i=>.inl (j k i)
 have u:Qp w1 base vb t.basis:=Qj hT.bas (N:=λk=>vr.ownBlock=some k) (GrN.by hg λk i=>i) λg u D=>Jyq hT.bas y kr u D;exact Qj u (N:=λk=>k=b) (GrN.by hg2 λk i=>by injection i with i;exact i.symm) λg u D=>hT.ne2 (by rw[u,D])
theorem TbV.addBas(hT:TbV w base b vr vg vb t){basis':List Nat}(ho:Qp w1 base vb' basis')(hg:w.grownBy w1 vb.ownBlock)(hn:∀ g,vb'.ownBlock=some g->vb.ownBlock=some g∨w.heap.size<=g)(hB:Blk w2 b 182 [.int .i64 (t.n:Int),.int .i64 (t.m:Int),vr,vg,vb'])(hg2:w1.grownBy w2 (some b)): TbV w2 base b vr vg vb' ⟨t.n,t.m,t.rows,t.goal,basis'⟩:=by
 have G:=hT.blk.lt;have j:∀ k,TN b vr vb' k->TN b vr vb k∨w.heap.size<=k:=λk i=>by
  rcases i with i|i|i
  .exact .inl (.inl i)
  .exact .inl (.inr (.inl i))
  rcases hn k i with h|h
  .exact .inl (.inr (.inr h))
  exact .inr h
 have y:vb'.ownBlock≠some b:=λe=>by
  rcases hn b e with h|h
  .exact hT.ne2 h
  omega
 obtain⟨ps,_,u,_⟩:=id hT.rows;have O:GrN (λk=>TN b vr vb k∨w.heap.size<=k) w w1:=GrN.by hg λk i=>.inl (.inr (.inr i))
 have J:GrN (λk=>TN b vr vb k∨w.heap.size<=k) w1 w2:=GrN.by hg2 λk i=>by injection i with i;exact .inl (.inl i.symm)
 refine⟨hB,?_,?_,Qj ho (N:=λk=>k=b) (GrN.by hg2 λk i=>by injection i with i;exact i.symm) λg D B=>y (by rw[D,B])⟩
 .have h0:=hT.rows.old MxC.sta (N':=λk=>TN b vr vb k∨w.heap.size<=k) λk i=>i;have D:=h0.gr MxC.sta (M:=λk=>vb.ownBlock=some k) (GrN.by hg λk i=>i) λk i=>⟨.inl (.inr (.inr i)),λe=>Jyq hT.bas u kr i e⟩;have B:=D.gr MxC.sta (M:=λk=>k=b) (GrN.by hg2 λk i=>by injection i with i;exact i.symm) λk i=>⟨.inl (.inl i),λe=>hT.ne1 (by rw[e,i])⟩;exact B.old MxC.sta λk i=>.inl (j k i)
 exact(((hT.goal.old RtC.sta (by decide) (λk i=>i)).gr RtC.sta (by decide) O).gr RtC.sta (by decide) J).old RtC.sta (by decide) λk i=>.inl (j k i)
end
open Go.RowKit Pl Go.Wk Bl
theorem Qnt{N:Nat->Prop}{w:World}{vC vA vB:Value}{n:Nat}{A:List (List PR)}(hC:GX 3 RtC N w vC (List.replicate n (PR.int 1)))(hA:GX 1 MxC N w vA A)(hB:GX 3 RtC N w vB (List.replicate A.length (PR.int 1)))(hbin:Bin n A)(hn:n<=64)(hm:A.length<=64):
  Ret Tryz.prog 90 [.agg #[vC,vA,vB]] w λu w'=>∃ base b vr vb,u=.pointer (some ⟨b,0,none⟩)/\w.heap.size<=base/\w.heap.size<=b/\base<=w'.heap.size/\TbV w' base b vr (.slice none 0 0) vb ⟨n,A.length,(PT.ofP n A).rows,[],(PT.ofP n A).basis⟩/\Ext w w':=by
 have av:(PT.ofP n A).rows.length=A.length:=by simp[PT.ofP]
 obtain⟨CA,cc,_,rfl,ef,_,_,_,_⟩:=id hC.el;obtain⟨AA,ac,_,rfl,fo,_,f5,_,f4⟩:=id hA.el;obtain⟨BA,bc,_,rfl,ej,_,ds,_,dq⟩:=id hB.el;simp only[List.length_replicate]at hC hB ef ej ds dq ⊢;refine Jz Tryz.func90 Tryz.ntmps90 rfl kr rfl ?_;refine ρ ?_;refine bx ?_;intro w1 b1 b9 fn bh;refine ρ ?_;refine ld (bh.at (i:=0) rfl) ?_;refine ρ ?_;refine ld (bh.at (i:=2) rfl) ?_;refine ρ ?_;refine bld (Xkn _ _ _) ?_;refine ρ ?_;refine bx ?_;intro w2 b b7 cg dx;have c0:=bh.ext b7;have a8:=b9.trans b7;have l1:=bh.lt;refine ρ ?_;refine ld (c0.at (i:=1) rfl) ?_;refine ρ ?_;refine Xf (fun (i:Nat) (vr vb:Value)=>[(1,.pointer (some ⟨b1,0,none⟩)),(3,.pointer (some ⟨b,0,none⟩)),(18,.slice AA A.length ac),(19,.int .i64 (A.length:Int)),(20,.int .i64 (i:Int))])
  (λi vr vb w'=>i<=A.length/\Ext w w'/\w2.heap.size<=w'.heap.size/\Blk w' b1 124 [.slice CA n cc,.slice AA A.length ac,.slice BA A.length bc]/\TbV w' w2.heap.size b vr (.slice none 0 0) vb ⟨n,A.length,(PT.ofP n A).rows.take i,[],(List.range i).map (n + ·)⟩) (λi _ _=>A.length-i) 0 (.slice none 0 0) (.slice none 0 0) sB
  ⟨Nat.zero_le _,a8,Nat.le_refl _,c0,dx,OX.nil _ _,GX.nil _ _,Xr _ _ _ _⟩ ?_
 rintro i vr vb w3 ⟨hi,ai,cr,az,B⟩;refine ρ ?_;refine ci (λh=>?_) (λh=>?_)
 .have D:i<A.length:=by have:=oT h;omega
  clear h;obtain⟨ce,fl,⟨va,rfl,hG⟩,ee⟩:=f4 i D;have en:A.getD i []=A[i]:=by simp[List.getD,List.getElem?_eq_getElem D]
  obtain⟨bd,dh⟩:=hbin i D;rw[<-en]at hG;generalize haa:A.getD i []=a at *
  obtain⟨K,kc,_,rfl,ea,_,dn,_,ey⟩:=id hG.el;rw[bd]at dn ea;have bo:w3.cell? (adr AA i)=some (.slice K a.length kc):=by
   have:=Zz ai (ee 0 _ rfl);rwa [Nat.mul_one,add_zero]at this
  rw[bd]at bo;refine ρ ?_;refine ix i (f5.ext ai) D ?_;refine ρ ?_;refine ld bo ?_;refine ρ ?_;refine cl (Jjf (n:=n) (m:=A.length) B.blk rfl rfl om om) ?_;rintro _ w4 ⟨rfl,J⟩;refine ρ ?_;refine Go.Wk.kv 27 (u:=.int .i64 ((n+A.length+2:Nat):Int)) (congrArg (Value.int .i64) (by show((n+A.length+1:Nat):Int)+1=_;omega)) ?_;refine cl (Jvg (n+A.length+2) om w4) ?_;rintro u w5 ⟨hU,cp⟩;have f7:=J.trans cp;obtain⟨U,uc,_,eu,fi,aw,fp⟩:=id hU.el;rw[List.length_replicate]at eu aw;subst eu;obtain⟨_,_,_,_,be⟩:=id hU.form;have bf:∀ g,(Value.slice U (n+A.length+2) uc).ownBlock=some g->Ov w4 (.slice U (n+A.length+2) uc) g:=λg hg=>.inr hg;have d2:(a++List.replicate (A.length+2) pr0).length=(List.replicate (n+A.length+2) pr0).length:=by simp[bd];omega
  refine ρ ?_;refine Js (fun (j:Nat)=>[(1,.pointer (some ⟨b1,0,none⟩)),(3,.pointer (some ⟨b,0,none⟩)),(4,.int .i64 (i:Int)),(6,.slice U (n+A.length+2) uc),(18,.slice AA A.length ac),(19,.int .i64 (A.length:Int)),(20,.int .i64 (i:Int)),(29,.slice K n kc),(30,.int .i64 (n:Int)),(31,.int .i64 (j:Int))])
   (λj w'=>j<=n/\Ext w4 w'/\OX 58 3 RtC (Ov w4 (.slice U (n+A.length+2) uc)) w' w4.heap.size (.slice U (n+A.length+2) uc) (mix (a++List.replicate (A.length+2) pr0) (List.replicate (n+A.length+2) pr0) j)) (λj=>n-j) 0 sB ⟨Nat.zero_le _,cp,by rw[Jjs];exact hU⟩ ?_
  rintro j w6 ⟨hj,ap,ax⟩;have c8:(mix (a++List.replicate (A.length+2) pr0) (List.replicate (n+A.length+2) pr0) j).length=n+A.length+2:=by rw[Kw d2 (by simp;omega)];simp
  have ar:=J.trans ap;obtain⟨U',e4,_,ev,_,br,_⟩:=id ax.el;rw[c8]at ev br;injection ev with ev1 ev2 ev3
  subst ev1;obtain⟨_,_,_,_,di⟩:=id ax.form;refine ρ ?_;refine ci (λh=>?_) (λh=>?_)
  .have ba:j<n:=by have:=oT h;omega
   clear h;obtain⟨ce,_,da,ed⟩:=ey j om;have dg:a[j]'(by omega)=a.getD j pr0:=by simp[List.getD,List.getElem?_eq_getElem (show j<a.length by omega)]
   rw[dg]at da;have e1:=dh j ba;have cy:(a.getD j pr0).Nrm:=by
    rcases e1 with e|e<;>rw[e]
    .exact Jxf
    exact PR.int_nrm 1
   have e8:=cy.norm;have f8:(a.getD j pr0).num<=1/\(a.getD j pr0).den<=1:=by rcases e1 with e|e<;>rw[e]<;>decide
   have d3:(a++List.replicate (A.length+2) pr0)[j]?=some (a.getD j pr0):=by rw[List.getElem?_append_left om,<-dg];exact gE om
   generalize a.getD j pr0=q at *
   obtain⟨E1,x1,E2,x2,rfl,e7⟩:=da.sl;have aj:=ai.trans ar;refine ρ ?_;refine ixq 3 j (dn.ext aj) ba ?_;refine ρ ?_;refine lds (λk u hu=>Zz aj (ed k u hu)) ?_;refine ρ ?_;refine alc Yv ?_;intro w7 b8 b6 em f3;refine ρ ?_;refine stb (cs':=[.bool q.neg,.slice E1 _ x1,.slice E2 _ x2]) f3 ?_ (Qz rfl rfl rfl);intro w8 du d4 e5;have a6:Ext w6 w8:=e5 w6 b6 em;refine ρ ?_;refine ldW du ?_;refine ρ ?_;refine cl (Vd (e7.ext (aj.trans a6)) om om) ?_;rintro r w9 ⟨hR,am⟩;rw[e8]at hR;have ao:=a6.trans am;obtain⟨G1,g1,G2,g2,rfl,cd⟩:=hR.cell;refine ρ ?_;refine ixq 3 j (br.ext ao) om ?_;refine ρ ?_;refine stX RtC.sta (ax.ext RtC.sta ao) c8.symm (show j<_ by omega) (cs:=[.bool q.neg,.slice G1 _ g1,.slice G2 _ g2]) (a:=q) (RtC.sta.old cd λk y=>.inl ?_) bf (Qz rfl rfl rfl) ?_
   .rcases y with y|y
    .exact nM y (ap.trans a6).size
    exact nM (di k y).2 a6.size
   intro e3 a5 d7;rw[Kk d2 (by simp;omega) d3]at a5;refine ρ ?_;exact Jp (j+1) sO ⟨om,Ja (ap.trans ao) d7 (λg hg=>(be g hg).1),a5⟩ om
  have ba:j=n:=by have:=oF h;omega
  clear h;subst ba;have ew:=B.ext ar;have fa:=az.ext ar;have ca:(mix (a++List.replicate (A.length+2) pr0) (List.replicate (j+A.length+2) pr0) j).length=j+A.length+2:=c8;have ch:∀ {w':World} {ls:List PR},OX 58 3 RtC (Ov w4 (.slice U (j+A.length+2) uc)) w' w4.heap.size (.slice U (j+A.length+2) uc) ls->Ext w4 w'->∀ k,Ov w4 (.slice U (j+A.length+2) uc) k->k<w'.heap.size:=fun {w' ls} h hx k y=>by
   rcases y with y|y
   .exact nM y hx.size
   obtain⟨_,_,_,_,h3⟩:=id h.form;exact(h3 k y).2
  have aw:∀ {w':World} {ls:List PR},OX 58 3 RtC (Ov w4 (.slice U (j+A.length+2) uc)) w' w4.heap.size (.slice U (j+A.length+2) uc) ls->ls.length=j+A.length+2->∃ cs,Rd w' 3 U (j+A.length+2) cs:=fun {w' ls} h hl=>by
   obtain⟨U',e4,cs,ev,_,hd,_⟩:=id h.el;rw[hl]at ev hd;injection ev with ev1 ev2 ev3
   subst ev1;exact⟨cs,hd⟩
  generalize hL0:mix (a++List.replicate (A.length+2) pr0) (List.replicate (j+A.length+2) pr0) j=L0 at *
  have b5:Ext w6 w6.drew:=(Ext.refl w6).drew;have ep:=ew.ext b5;refine ρ ?_;refine dr [(0,0),(0,1),(0,2),(0,3),(0,4),(0,5),(0,6),(1,7),(0,8),(2,9)] kr ?_;refine ρd ?_;refine dld (v:=.int .i64 (j:Int)) (ep.blk.at (i:=0) rfl) ?_;refine ρd ?_;refine dcl (Jjk 1 (by decide) (by decide) _) ?_;rintro r w7 ⟨hR,b6⟩;refine⟨b6,?_⟩;have bi:=b5.trans b6;have dk:=ax.ext RtC.sta bi;obtain⟨_,ec⟩:=aw dk ca;obtain⟨G1,g1,G2,g2,rfl,cd⟩:=hR.cell;refine ρd ?_;refine Xc 3 (j+i) ec om ?_;refine ρd ?_;refine Jd ?_;refine stX RtC.sta dk ca.symm (show j+i<_ by omega) (cs:=[.bool (PR.int 1).neg,.slice G1 _ g1,.slice G2 _ g2]) (a:=PR.int 1) (RtC.sta.old cd λk y=>.inl (ch (ax.ext RtC.sta b5) (ap.trans b5) k y)) bf (Qz rfl rfl rfl) ?_;intro w8 dj d4;have aq:Ext w4 w8:=Ja (ap.trans bi) d4 (λg hg=>(be g hg).1);have c9:(L0.set (j+i) (PR.int 1)).length=j+A.length+2:=by rw[List.length_set];exact ca
  have et:=B.ext (J.trans aq);refine ρ ?_;refine cl (Xwx (n:=j) (m:=A.length) et.blk rfl rfl om om) ?_;rintro _ w9 ⟨rfl,am⟩;refine ρ ?_;refine cl (Jjk (-1) (by decide) (by decide) _) ?_;rintro r e3 ⟨hR,cq⟩;have an:=am.trans cq;have a5:=dj.ext RtC.sta an;obtain⟨_,d9⟩:=aw a5 c9;obtain⟨H1,h1,H2,h2,rfl,de⟩:=hR.cell;refine ρ ?_;refine ixq 3 (j+A.length) d9 om ?_;refine ρ ?_;refine stX RtC.sta a5 c9.symm (show j+A.length<_ by omega) (cs:=[.bool (PR.int (-1)).neg,.slice H1 _ h1,.slice H2 _ h2]) (a:=PR.int (-1)) (RtC.sta.old de λk y=>.inl (ch (dj.ext RtC.sta am) (aq.trans am) k y)) bf (Qz rfl rfl rfl) ?_;intro b4 bu d6;have G:Ext w4 b4:=Ja (aq.trans an) d6 (λg hg=>(be g hg).1);have bn:((L0.set (j+i) (PR.int 1)).set (j+A.length) (PR.int (-1))).length=j+A.length+2:=by rw[List.length_set];exact c9
  have ah:Ext b4 b4.drew:=(Ext.refl b4).drew;have dm:=(B.ext (J.trans G)).ext ah;have co:=(az.ext (J.trans G)).ext ah;have au:=(ai.trans (J.trans G)).trans ah;obtain⟨cb,_,bp,db⟩:=dq i D;have ei:(List.replicate A.length (PR.int 1))[i]'(by simpa using D)=PR.int 1:=by simp
  simp only[ei]at bp;obtain⟨F1,f1,F2,f2,rfl,ek⟩:=bp.sl;have e9:(PR.int 1).norm=PR.int 1:=(PR.int_nrm 1).norm;refine ρ ?_;refine dr [(0,0),(0,1),(0,3),(0,4),(0,5),(0,6),(0,7),(1,2),(1,8),(0,9),(2,10)] kr ?_;refine ρd ?_;refine dld (co.at (i:=2) rfl) ?_;refine ρd ?_;refine Xc 3 i (ds.ext au) D ?_;refine ρd ?_;refine Qb (λk u hu=>Zz au (db k u hu)) ?_;refine ρd ?_;refine dcl (Jjf (n:=j) (m:=A.length) dm.blk rfl rfl om om) ?_;rintro _ ff ⟨rfl,a3⟩;refine⟨a3,?_⟩;refine ρd ?_;refine dcl (Vd (ek.ext (au.trans a3)) (by decide) (by decide)) ?_;rintro r fe ⟨hR,bj⟩;refine⟨bj,?_⟩;rw[e9]at hR;have a7:=(ah.trans a3).trans bj;have bt:=bu.ext RtC.sta a7;obtain⟨_,d8⟩:=aw bt bn;obtain⟨I1,i1,I2,i2,rfl,dc⟩:=hR.cell;refine ρd ?_;refine Xc 3 (j+A.length+1) d8 om ?_;refine ρd ?_;refine Jd ?_;refine stX RtC.sta bt bn.symm (show j+A.length+1<_ by omega) (cs:=[.bool (PR.int 1).neg,.slice I1 _ i1,.slice I2 _ i2]) (a:=PR.int 1) (RtC.sta.old dc λk y=>.inl (ch (bu.ext RtC.sta (ah.trans a3)) (G.trans (ah.trans a3)) k y)) bf (Qz rfl rfl rfl) ?_
  intro e2 ay d5;have a2:Ext w4 e2:=Ja (G.trans a7) d5 (λg hg=>(be g hg).1);rw[<-hL0]at ay;have df:=Qmz hbin D;rw[haa]at df;rw[df]at ay;have cx:(PT.ofP j A).rows.getD i []=(PT.ofP j A).rows[i]'(by rw[av];exact D):=by simp[List.getD,List.getElem?_eq_getElem (show i<(PT.ofP j A).rows.length by rw[av];exact D)]
  have cw:((PT.ofP j A).rows.getD i []).length=j+A.length+2:=by rw[Jkt i D,haa,List.length_append,List.length_append,bd,List.length_map,List.length_range];rfl
  generalize hrw:(PT.ofP j A).rows.getD i []=rw' at *
  have bz:=B.ext (J.trans a2);have cn:=az.ext (J.trans a2);have c7:=ai.trans (J.trans a2);have bm:=nL cr (J.trans a2).size;refine ρ ?_;refine ld (bz.blk.at (i:=2) rfl) ?_;refine ρ ?_;refine bsl (Qwz _ _ _) ?_;intro b3 bb Z fm f0;have ad:=bz.ext Z;have bs:=(ay.ext RtC.sta Z).old RtC.sta (N':=λk=>Ov w4 (.slice U (j+A.length+2) uc) k∨b3.heap.size<=k) λk y=>y;have eo:=B.lt;have ez:GX 3 RtC (λk=>TN b vr vb k∨b3.heap.size<=k) b3 (.slice U (j+A.length+2) uc) rw':=bs.gx RtC.sta (by rw[cw];omega) λk y=>by
   obtain⟨_,_,_,_,h3⟩:=id bs.form;rcases y with y|y
   .have:=eo k y;have:=J.size;exact⟨.inl (.inl om),λe=>by have:=(h3 k e).1;omega⟩
   exact⟨.inr y,λe=>by have:=(h3 k e).2;omega⟩
  refine ρ ?_;refine apX (N:=λk=>TN b vr vb k∨b3.heap.size<=k) EMx MxC.sta (ad.rows.old MxC.sta λk y=>y) f0 rfl (λu hu=>by rw[List.mem_singleton.1 hu];rfl) ⟨_,rfl,ez⟩ (λg hg=>.inl (.inr (.inl hg))) (by simp;omega) (by decide) (nL bm Z.size) ?_;intro vr' fd af a4 d1;have e6:(PT.ofP j A).rows.take i++[rw']=(PT.ofP j A).rows.take (i+1):=by rw[List.take_add_one,List.getElem?_eq_getElem (by rw[av];exact D),cx];rfl
  simp only at af;rw[e6]at af;obtain⟨R',fh,ev,_,_⟩:=id af.form;subst ev;have cj:=ad.blk.grown a4 (λe=>ad.ne1 e.symm);refine ρ ?_;refine stF (i:=2) cj rfl ?_;intro ag e0 aa;have bw:=ad.addRow af a4 d1 e0 aa;have er:∀ k,TN b vr vb k->w2.heap.size<=k∨k=b:=λk y=>by
   rcases y with y|y|y
   .exact .inr y
   .obtain⟨_,_,_,_,h3⟩:=id B.rows.form;exact .inl (h3 k y).1
   obtain⟨_,_,_,_,h3⟩:=Jv B.bas;exact .inl (h3 k y).1
  have fk:=dx.lt;have bq:b1≠b:=om
  have c6:=c7.trans Z;have c5:Ext w ag:=Ja (Ja c6 a4 λk y=>by
   obtain⟨_,_,_,_,h3⟩:=id B.rows.form;have:=(h3 k y).1;have:=a8.size;omega) aa λk y=>by injection y with y;subst y;exact nL b9.size cg
  have cm:Blk ag b1 _ _:=((cn.ext Z).grown a4 λe=>by
   obtain⟨_,_,_,_,h3⟩:=id B.rows.form;have:=(h3 b1 e.symm).1;have:=b7.size;omega).grown aa λe=>by injection e with e;exact bq e
  have bl:w2.heap.size<=ag.heap.size:=nL bm (nL Z.size (nL a4.size aa.size));obtain⟨S,sc,eS,fj,_⟩:=Jv bw.bas;have ak:Ext ag ag.drew:=(Ext.refl ag).drew;have bg:=bw.ext ak;have cz:¬ vb.ownBlock=some b:=bg.ne2;have eh:((List.range i).map (j + ·)).length=i:=by simp
  refine ρ ?_;refine drN (λk=>vb.ownBlock=some k) 18 [(0,0),(0,1),(0,2),(0,3),(0,4),(0,5),(0,6),(0,7),(0,8),(0,9),(0,10),(1,11),(1,12),(0,13),(0,14),(2,15)] kr ?_;refine ρn ?_;refine nld (λw' hg=>(Jr bg.blk hg cz).at (i:=4) rfl) ?_;refine ρn ?_;refine nld (v:=.int .i64 (j:Int)) (λw' hg=>(Jr bg.blk hg cz).at (i:=0) rfl) ?_;refine ρn ?_;refine nkv 86 (u:=.int .i64 ((j+i:Nat):Int)) (congrArg (Value.int .i64) (show(j:Int)+(i:Int)=((j+i:Nat):Int) by omega)) ?_;refine nop ?_;refine bsl (Jzl _) ?_;intro fc b2 O f9 dt;refine Je (Qg (GrN.ext O) ?_);have ab:=bg.ext O;refine ρn ?_;refine nop ?_;refine apI (z:=j+i) ab.bas dt (by rw[eh];omega) (nL bl (ak.trans O).size) ?_;intro vb' fb ae a1 d0;have eg:(List.range i).map (j + ·)++[j+i]=(List.range (i+1)).map (j + ·):=by rw[List.range_succ,List.map_append];rfl
  simp only at ae;rw[eg]at ae;refine Je (Qg (GrN.by a1 λk e=>e) ?_);obtain⟨S',fg,f6,_,_⟩:=Jv ae;subst f6;have dz:=ab.blk.grown a1 (λe=>ab.ne2 e.symm);refine ρn ?_;refine Xu ?_;refine stF (i:=4) dz rfl ?_;intro c1 dw a9;have dl:=ab.addBas ae a1 d0 dw a9;have c4:=c5.trans (ak.trans O);have c2:Ext w c1:=Ja (Ja c4 a1 λk y=>by
   obtain⟨_,_,_,_,h3⟩:=Jv B.bas;have:=(h3 k y).1;have:=a8.size;omega) a9 λk y=>by injection y with y;subst y;exact nL b9.size cg
  have ck:Blk c1 b1 _ _:=((cm.ext (ak.trans O)).grown a1 λe=>by
   obtain⟨_,_,_,_,h3⟩:=Jv B.bas;have:=(h3 b1 e.symm).1;have:=b7.size;omega).grown a9 λe=>by injection e with e;exact bq e
  have cu:w2.heap.size<=c1.heap.size:=nL bl (nL (ak.trans O).size (nL a1.size a9.size));refine Je (Uh ?_);refine ρn ?_;refine ρ ?_;exact Qn (i+1) _ _ sO ⟨om,c2,cu,ck,dl⟩ om
 have eb:i=A.length:=by have:=oF h;omega
 subst eb;rw[<-av,List.take_length,av]at B;refine ρ ?_;exact Jq ⟨w2.heap.size,b,vr,vb,rfl,a8.size,Nat.le_trans b9.size cg,cr,B,ai⟩
open Go.RowKit Pl Go.Wk Bl
variable {A:List (List PR)}{g:List PR}{b base i n:Nat}{N:Nat->Prop}{vA vB vC vb vg vr:Value}{w:World}
theorem Qbr(hC:GX 3 RtC N w vC (List.replicate n (PR.int 1)))(hA:GX 1 MxC N w vA A)(hB:GX 3 RtC N w vB (List.replicate A.length (PR.int 1)))(hbin:Bin n A)(hm:A.length<=64):
  Ret Tryz.prog 89 [.agg #[vC,vA,vB]] w λu w'=>u=.bool true/\Ext w w':=by
 obtain⟨CA,cc,_,rfl,O,_,_,_,_⟩:=id hC.el;obtain⟨AA,ac,_,rfl,a8,_,a4,_,a3⟩:=id hA.el;obtain⟨BA,bc,_,rfl,U,_,a2,_,a1⟩:=id hB.el;simp only[List.length_replicate]at hC hB O U a2 a1 ⊢;refine Jz Tryz.func89 Tryz.ntmps89 rfl kr rfl ?_;refine ρ ?_;refine bx ?_;intro w1 b1 B a7 y;refine ρ ?_;refine ld (y.at (i:=1) rfl) ?_;refine ρ ?_;refine ld (y.at (i:=2) rfl) ?_;refine ρ ?_;refine cf ?_ ?_
 .simp
 refine ρ ?_;refine ld (y.at (i:=1) rfl) ?_;refine ρ ?_;refine Js (fun (i:Nat)=>[(1,.pointer (some ⟨b1,0,none⟩)),(13,.slice AA A.length ac),(14,.int .i64 (A.length:Int)),(15,.int .i64 (i:Int))]) (λi w'=>i<=A.length/\w'=w1) (λi=>A.length-i) 0 sB ⟨Nat.zero_le _,rfl⟩ ?_;rintro i w2 ⟨hi,rfl⟩;refine ρ ?_;refine ci (λh=>?_) (λh=>?_)
 .have j:i<A.length:=by have:=oT h;omega
  clear h;obtain⟨ce,a6,⟨va,rfl,hG⟩,G⟩:=a3 i j;obtain⟨K,kc,_,rfl,a5,_,_,_,_⟩:=id hG.el;have J:=(hbin i j).1;have Z:A.getD i []=A[i]:=by simp[List.getD,List.getElem?_eq_getElem j]
  rw[Z]at J;rw[J]at G;have D:w2.cell? (adr AA i)=some (.slice K n kc):=by
   have:=Zz B (G 0 _ rfl);rwa [Nat.mul_one,add_zero]at this
  refine ρ ?_;refine ix i (a4.ext B) j ?_;refine ρ ?_;refine ld D ?_;refine ρ ?_;refine ld (y.at (i:=0) rfl) ?_;refine ρ ?_;refine cf ?_ ?_
  .simp
  refine ρ ?_;exact Jp (i+1) sO ⟨om,rfl⟩ om
 refine ρ ?_;exact Jq ⟨rfl,B⟩
theorem Qmw(hbin:Bin n A)(hi:i<A.length): ((PT.ofP n A).rows.getD i []).getD (n+A.length+1) pr0=PR.int 1:=by
 rw[Jxm hbin.rok i _ hi,if_neg om,if_neg om,if_neg om,if_pos rfl]
theorem Qmv(hbin:Bin n A)(hi:i<A.length): ((PT.ofP n A).rows.getD i []).length=n+A.length+2:=by
 rw[Jkt i hi,List.length_append,List.length_append,(hbin i hi).1,List.length_map,List.length_range];rfl
theorem Xjb(hT:TbV w base b vr vg vb ⟨n,A.length,(PT.ofP n A).rows,g,(PT.ofP n A).basis⟩)(hbin:Bin n A)(hn:n<=64)(hm:A.length<=64):
  Ret Tryz.prog 91 [.pointer (some ⟨b,0,none⟩)] w λu w'=>u=.bool true/\Ext w w':=by
 have U:(PT.ofP n A).rows.length=A.length:=by simp[PT.ofP]
 obtain⟨R,rc,_,ev,aj,a7,a6⟩:=id hT.rows.el;simp only[U]at ev a7 a6;subst ev;refine Jz Tryz.func91 Tryz.ntmps91 rfl kr rfl ?_;refine ρ ?_;refine ld (hT.blk.at (i:=2) rfl) ?_;refine ρ ?_;refine Js (fun (k:Nat)=>[(0,.pointer (some ⟨b,0,none⟩)),(3,.int .i64 (-1)),(13,.slice R A.length rc),(14,.int .i64 (A.length:Int)),(15,.int .i64 (k:Int))]) (λk w'=>k<=A.length/\Ext w w') (λk=>A.length-k) 0 sB ⟨Nat.zero_le _,Ext.refl _⟩ ?_;rintro k w1 ⟨hk,y⟩;refine ρ ?_;refine ci (λh=>?_) (λh=>?_)
 .have B:k<A.length:=by have:=oT h;omega
  clear h;obtain⟨ce,an,⟨vk,rfl,a9⟩,a5⟩:=a6 k B;have af:(PT.ofP n A).rows[k]'(by rw[U];exact B)=(PT.ofP n A).rows.getD k []:=by simp[List.getD,List.getElem?_eq_getElem (show k<(PT.ofP n A).rows.length by rw[U];exact B)]
  rw[af]at a9;have D:=Qmv hbin B;have ae:=Qmw hbin B;generalize (PT.ofP n A).rows.getD k []=row at *
  obtain⟨K,kc,_,rfl,ak,_,a8,_,ah⟩:=id a9.el;rw[D]at a5 a8;have a4:w1.cell? (adr R k)=some (.slice K (n+A.length+2) kc):=by
   have:=Zz y (a5 0 _ rfl);rwa [Nat.mul_one,add_zero]at this
  obtain⟨cr,_,a2,a3⟩:=ah (n+A.length+1) (by rw[D];omega);have er:row[n+A.length+1]'(by rw[D];omega)=PR.int 1:=by rw[<-ae];simp[List.getD,List.getElem?_eq_getElem (show n+A.length+1<row.length by rw[D];omega)]
  rw[er]at a2;obtain⟨F1,f1,F2,f2,rfl,ad⟩:=a2.sl;refine ρ ?_;refine ix k (a7.ext y) B ?_;refine ρ ?_;refine ld a4 ?_;refine ρ ?_;refine cl (Jjf (n:=n) (m:=A.length) (hT.blk.ext y) rfl rfl om om) ?_;rintro _ w2 ⟨rfl,O⟩;refine ρ ?_;refine ixq 3 (n+A.length+1) ((a8.ext y).ext O) om ?_;refine ρ ?_;refine lds (λj u hu=>Zz (y.trans O) (a3 j u hu)) ?_;refine ρ ?_;refine alc Yv ?_;intro w3 b6 ac ag ai;refine ρ ?_;refine stb (cs':=[.bool (PR.int 1).neg,.slice F1 _ f1,.slice F2 _ f2]) ai ?_ (Qz rfl rfl rfl);intro w4 aa am ab;have a1:Ext w2 w4:=ab w2 ac ag;have G:=(y.trans O).trans a1;have J:Ext w4 w4.drew:=(Ext.refl w4).drew;refine ρ ?_;refine dr [(0,0),(1,1),(0,2),(0,3),(0,4),(0,5),(0,6),(0,7),(0,8),(0,9),(0,10),(0,11),(0,12),(0,13),(0,14),(0,15),(1,16),(0,17),(0,18),(1,19),(0,20),(0,21),(0,22)] kr ?_;refine ρd ?_;refine Qb (λj u hu=>(aa.ext J).at hu) ?_
  refine ρd ?_;refine dcl (Ga (ad.ext (G.trans J)) (by have:=Qa (n:=(PR.int 1).num) (by decide);omega)) ?_;rintro _ w5 ⟨rfl,Z⟩;refine⟨Z,?_⟩;refine ρd ?_;refine ρ ?_;exact Jp (k+1) sO ⟨om,(G.trans J).trans Z⟩ om
 refine ρ ?_;exact Jq ⟨rfl,y⟩
theorem Qmx: (PT.ofP n A).goal=mix (List.replicate n (PR.int (-1))++List.replicate (A.length+2) pr0) (List.replicate (n+A.length+2) pr0) n:=by
 unfold mix PT.ofP;simp only;rw[List.take_append_of_le_length (by simp),List.take_of_length_le (by simp),List.drop_replicate,show n+A.length+2-n=A.length+2 by omega]
theorem Qnc(hT:TbV w base b vr vg vb ⟨n,A.length,(PT.ofP n A).rows,g,(PT.ofP n A).basis⟩)(hC:GX 3 RtC N w vC (List.replicate n (PR.int 1)))(hNC:∀ k,TN b vr vb k->N k)(hbin:Bin n A)(hn:n<=64)(hm:A.length<=64):
  Ret Tryz.prog 93 [.pointer (some ⟨b,0,none⟩),vC] w λu w'=>u=.tuple #[]/\∃ vg',TbV w' base b vr vg' vb (PT.ofP n A)/\GrN (TN b vr vb) w w':=by
 obtain⟨CA,cc,_,rfl,b1,_,bd,_,bc⟩:=id hC.el;simp only[List.length_replicate]at hC b1 bd bc ⊢;have Z:=hT.lt;refine Jz Tryz.func93 Tryz.ntmps93 rfl kr rfl ?_;refine ρ ?_;refine cl (Jjf (n:=n) (m:=A.length) hT.blk rfl rfl om om) ?_;rintro _ w1 ⟨rfl,D⟩;refine ρ ?_;refine Go.Wk.kv 10 (u:=.int .i64 ((n+A.length+2:Nat):Int)) (congrArg (Value.int .i64) (show((n+A.length+1:Nat):Int)+1=_ by omega)) ?_;refine cl (Jvg (n+A.length+2) om w1) ?_;rintro u w2 ⟨hU,a2⟩;obtain⟨U,uc,_,eu,bi,_,_⟩:=id hU.el;rw[List.length_replicate]at eu;subst eu;obtain⟨_,_,_,_,O⟩:=id hU.form;have ae:=D.trans a2;have a6:=hT.ext D;generalize hu:Value.slice U (n+A.length+2) uc=u at *
 have bb:∀ k,(TN b vr vb k∨u.ownBlock=some k)->TN b vr vb k∨w1.heap.size<=k:=λk y=>y.elim .inl λh=>.inr (O k h).1;have ba:=(a6.rows.old MxC.sta bb).ext MxC.sta a2;have b6:OX 58 3 RtC (λk=>TN b vr vb k∨u.ownBlock=some k) w2 w1.heap.size u (List.replicate (n+A.length+2) pr0):=hU.old RtC.sta λk y=>by
  rcases y with y|y
  .exact .inl (.inl (nM (Z k y) D.size))
  exact .inl (.inr y)
 have an:u.ownBlock≠some b:=λe=>by have:=(O b e).1;have:=a6.blk.lt;omega
 have b8:=Jh a6.bas a2;have bg:=a6.blk.ext a2;refine ρ ?_;refine stF (i:=3) (v:=u) bg rfl ?_ rfl rfl rfl rfl rfl (by rw[<-hu];rfl);intro w3 bf ax;have J:GrN (λk=>k=b) w2 w3:=GrN.by ax λk y=>by injection y with y;exact y.symm
 have b9:=ba.gr MxC.sta J λk y=>⟨.inl (.inl y),λe=>hT.ne1 (by rw[e,y])⟩;have b5:=b6.gr RtC.sta J λk y=>⟨.inl (.inl y),λe=>an (by rw[e,y])⟩;have b7:Qp w3 base vb (PT.ofP n A).basis:=Qj b8 J λg h1 h2=>hT.ne2 (by rw[h1,h2]);have ak:GrN (TN b vr vb) w w3:=(GrN.ext ae).trans (J.mono λk _ y=>.inl y);have ai:(List.replicate n (PR.int (-1))++List.replicate (A.length+2) pr0).length=(List.replicate (n+A.length+2) pr0).length:=by simp;omega
 refine ρ ?_;refine Js (fun (j:Nat)=>[(0,.pointer (some ⟨b,0,none⟩)),(1,.slice CA n cc),(15,.int .i64 (n:Int)),(16,.int .i64 (j:Int))])
  (λj w'=>j<=n/\GrN (TN b vr vb) w w'/\Blk w' b 182 [.int .i64 (n:Int),.int .i64 (A.length:Int),vr,u,vb]/\OX 56 1 MxC (λk=>TN b vr vb k∨u.ownBlock=some k) w' base vr (PT.ofP n A).rows/\Qp w' base vb (PT.ofP n A).basis/\OX 58 3 RtC (λk=>TN b vr vb k∨u.ownBlock=some k) w' w1.heap.size u (mix (List.replicate n (PR.int (-1))++List.replicate (A.length+2) pr0) (List.replicate (n+A.length+2) pr0) j)) (λj=>n-j) 0 sB
  ⟨Nat.zero_le _,ak,bf,b9,b7,by rw[Jjs];exact b5⟩ ?_
 rintro j w4 ⟨hj,a3,ac,ab,aq,a5⟩;have ah:(mix (List.replicate n (PR.int (-1))++List.replicate (A.length+2) pr0) (List.replicate (n+A.length+2) pr0) j).length=n+A.length+2:=by rw[Kw ai (by simp;omega)];simp
 refine ρ ?_;refine ci (λh=>?_) (λh=>?_)
 .have G:j<n:=by have:=oT h;omega
  clear h;have a9:Ext w4 w4.drew:=(Ext.refl w4).drew;have be:=(hC.gr RtC.sta (by decide) (a3.mono λk _ y=>hNC k y)).ext RtC.sta (by decide) a9;obtain⟨bn,bm,_,ev,_,_,a8,_,ar⟩:=id be.el;simp only[List.length_replicate]at ev a8;injection ev with ev1 ev2 ev3
  subst ev1;obtain⟨ce,_,am,az⟩:=ar j (by simpa using G);have e1:(List.replicate n (PR.int 1))[j]'(by simpa using G)=PR.int 1:=by simp
  simp only[e1]at am;obtain⟨F1,f1,F2,f2,rfl,b2⟩:=am.sl;have af:(PR.int 1).opp=PR.int (-1):=by decide +kernel
  have au:=ac.ext a9;have av:∀ {w':World} {ls:List PR},OX 58 3 RtC (λk=>TN b vr vb k∨u.ownBlock=some k) w' w1.heap.size u ls->ls.length=n+A.length+2->∃ cs,Rd w' 3 U (n+A.length+2) cs:=fun {w' ls} h hl=>by
   obtain⟨U',bh,cs,ev,_,hd,_⟩:=id h.el;rw[hl]at ev hd;rw[<-hu]at ev;injection ev with ev1 ev2 ev3
   subst ev1;exact⟨cs,hd⟩
  refine ρ ?_;refine dr [(0,0),(0,1),(0,2),(0,3),(0,4),(0,5),(0,6),(0,7),(0,8),(1,9),(0,10),(2,11)] kr ?_;refine ρd ?_;refine dld (v:=.slice U (n+A.length+2) uc) (by rw[hu];exact au.at (i:=3) rfl) ?_;refine ρd ?_;refine Xc 3 j a8 G ?_;refine ρd ?_;refine Qb (λk x hx=>az k x hx) ?_;refine ρd ?_;refine dcl (Jsg b2 (by decide) (by decide)) ?_;rintro r w5 ⟨hR,ad⟩;refine⟨ad,?_⟩;rw[af]at hR;have B:=a9.trans ad;have aa:=a5.ext RtC.sta B;obtain⟨_,ay⟩:=av aa ah;obtain⟨G1,g1,G2,g2,rfl,b3⟩:=hR.cell;refine ρd ?_;refine Xc 3 j ay om ?_;refine ρd ?_;refine Jd ?_;obtain⟨_,_,_,_,ao⟩:=id a5.form;have aj:∀ w1' ,OX 58 3 RtC (λk=>TN b vr vb k∨u.ownBlock=some k) w1' w1.heap.size u ((mix (List.replicate n (PR.int (-1))++List.replicate (A.length+2) pr0) (List.replicate (n+A.length+2) pr0) j).set j (PR.int (-1)))->w5.grownBy w1' u.ownBlock->GrN (TN b vr vb) w w1'/\Blk w1' b 182 [.int .i64 (n:Int),.int .i64 (A.length:Int),vr,u,vb]/\OX 56 1 MxC (λk=>TN b vr vb k∨u.ownBlock=some k) w1' base vr (PT.ofP n A).rows/\Qp w1' base vb (PT.ofP n A).basis/\OX 58 3 RtC (λk=>TN b vr vb k∨u.ownBlock=some k) w1' w1.heap.size u (mix (List.replicate n (PR.int (-1))++List.replicate (A.length+2) pr0) (List.replicate (n+A.length+2) pr0) (j+1)):=λw6 a4 hg6=>by
   rw[Kk ai (by simp;omega) (by rw[List.getElem?_append_left (by simpa using G)];simp[G])]at a4;have a7:GrN (λk=>u.ownBlock=some k) w5 w6:=GrN.by hg6 λk y=>y
   refine⟨?_,?_,?_,?_,a4⟩
   .have h1:GrN (TN b vr vb) w w5:=a3.trans (GrN.ext B);refine⟨hg6.os.trans h1.os,hg6.tape.trans h1.tape,hg6.output.trans h1.output,Nat.le_trans h1.size hg6.size,λk y hn=>(hg6.block k (nM y h1.size) λe=>?_).trans (h1.block k y hn)⟩;have:=(O k e.symm).1;have:=D.size;omega
   .exact(ac.ext B).grown hg6 (λe=>an e.symm)
   .obtain⟨_,_,_,_,h3⟩:=id ab.form;refine(ab.ext MxC.sta B).gr MxC.sta a7 λk y=>⟨.inr y,λe=>?_⟩;have:=Z k (.inr (.inl e));have:=(O k y).1;have:=D.size;omega
   exact Qj (Jh aq B) a7 λg h1 h2=>by
    have:=Z g (.inr (.inr h1));have:=(O g h2).1;have:=D.size;omega
  rw[<-hu]at aa aj ⊢;refine stX RtC.sta aa ah.symm (show j<_ by omega) (cs:=[.bool (PR.int (-1)).neg,.slice G1 _ g1,.slice G2 _ g2]) (a:=PR.int (-1)) (RtC.sta.old b3 λk y=>.inl ?_) (λg hg=>.inr hg) (Qz rfl rfl rfl) ?_
  .rcases y with y|y
   .exact nM (Z k y) a3.size
   rw[hu]at y;exact(ao k y).2
  intro w6 a4 hg6;obtain⟨k1,k2,k3,k4,k5⟩:=aj w6 a4 hg6;refine ρ ?_;exact Jp (j+1) sO ⟨om,k1,k2,k3,k4,k5⟩ om
 have G:j=n:=by have:=oF h;omega
 clear h;subst G;rw[<-Qmx]at a5;have aw:(PT.ofP j A).goal.length<=1100000:=by simp[PT.ofP];omega
 have a1:TbV w4 base b vr u vb (PT.ofP j A):=⟨ac,ab.old MxC.sta λk y=>.inl (.inl y),a5.gx RtC.sta aw λk y=>⟨.inl y,λe=>by
  have:=Z k y;have:=(O k e).1;have:=D.size;omega⟩,aq⟩
 obtain⟨S,sc,eS,bj,_⟩:=Jv a1.bas;have bl:(PT.ofP j A).basis.length=A.length:=by simp[PT.ofP]
 have b4:∀ k,k<A.length->(PT.ofP j A).basis.getD k 0=j+k:=λk y=>by simp[PT.ofP,List.getD,y]
 have ap:=Rd.own (show w4.ownsRow base 3 1 (.slice S (PT.ofP j A).basis.length sc) (PT.ofP j A).basis.length (Jb (nz (PT.ofP j A).basis)) by rw[<-eS];exact a1.bas);subst eS;refine ρ ?_;refine ld (a1.blk.at (i:=4) rfl) ?_;refine ρ ?_;refine Js (fun (k:Nat)=>[(0,.pointer (some ⟨b,0,none⟩)),(34,.slice S (PT.ofP j A).basis.length sc),(35,.int .i64 ((PT.ofP j A).basis.length:Int)),(36,.int .i64 (k:Int))]) (λk w'=>k<=A.length/\w'=w4) (λk=>A.length-k) 0 sB ⟨Nat.zero_le _,rfl⟩ ?_;rintro k w5 ⟨y,rfl⟩;refine ρ ?_;refine ci (λh=>?_) (λh=>?_)
 .have ag:k<(PT.ofP j A).basis.length:=by have:=oT h;omega
  clear h;refine ρ ?_;refine ix k ap ag ?_;refine ρ ?_;refine ld (ap.cell (Qs ag)) ?_;refine ρ ?_;refine ld (v:=.int .i64 (j:Int)) (a1.blk.at (i:=0) rfl) ?_;refine ρ ?_;refine cf ?_ ?_
  .rw[b4 k om];exact dF om
  refine ρ ?_;exact Jp (k+1) sO ⟨om,rfl⟩ om
 refine ρ ?_;exact Yx ⟨rfl,u,a1,a3⟩
end Go.Proofs.YtebiphhfkdbpfaaGreatDoor
namespace Go.Wk
open Go.RowKit
theorem Qzf{α:Type}{sz:Nat}: ∀ {ps:List (List Value×α)} {k:Nat},(∀ p∈ps,p.1.length=sz)->k<=ps.length->Jm (ps.drop k)=(Jm ps).drop (k*sz)
 | ps,0,_,_=>by simp
 | [],k+1,_,h=>by simp at h
 | p::ps,k+1,h,hk=>by
  have hp:=h p (by simp);have ih:=Qzf (ps:=ps) (k:=k) (λx hx=>h x (by simp[hx])) (by simpa using hk);have e:Jm (p::ps)=p.1++Jm ps:=rfl;rw[List.drop_succ_cons,ih,e,Nat.succ_mul,List.drop_append,show p.1.drop (k*sz+sz)=[] from List.drop_of_length_le om,List.nil_append,hp,show k*sz+sz-sz=k*sz by omega]
theorem Qzb{α:Type}{sz:Nat}: ∀ {ps:List (List Value×α)} {k:Nat},(∀ p∈ps,p.1.length=sz)->k<=ps.length->Jm (ps.take k)=(Jm ps).take (k*sz)
 | ps,0,_,_=>by simp[Jm]
 | [],k+1,_,h=>by simp at h
 | p::ps,k+1,h,hk=>by
  have hp:=h p (by simp);have ih:=Qzb (ps:=ps) (k:=k) (λx hx=>h x (by simp[hx])) (by simpa using hk);have e:Jm (p::ps)=p.1++Jm ps:=rfl;have e2:Jm (p::ps.take k)=p.1++Jm (ps.take k):=rfl;rw[List.take_succ_cons,e2,ih,e,Nat.succ_mul,List.take_append,show p.1.take (k*sz+sz)=p.1 from List.take_of_length_le om,hp,show k*sz+sz-sz=k*sz by omega]
theorem OX.rd{α:Type}{e sz base m c:Nat}{A:Option Addr}{Φ:(Nat->Prop)->World->List Value->α->Prop}{N:Nat->Prop}{w:World}{ls:List α}(h:OX e sz Φ N w base (.slice A m c) ls)(hm:m=ls.length): ∃ L,Rd w sz A m L:=by
 obtain⟨ps,j,i,u⟩:=h;have:m=ps.length:=by rw[hm,j,List.length_map]
 subst this;exact⟨_,Rd.own i⟩
theorem GX.cut{α:Type}{sz:Nat}{Φ:(Nat->Prop)->World->List Value->α->Prop}{N:Nat->Prop}{w:World}{A:Option Addr}{L c:Nat}{ls:List α}(h:GX sz Φ N w (.slice A L c) ls)(hs:0<sz){k m:Nat}(hk:k<=m)(hm:m<=ls.length):
  GX sz Φ N w (.slice (if c=k then A else A.map (·.add (k*sz))) (m-k) (c-k)) ((ls.drop k).take (m-k)):=by
 obtain⟨⟨ps,A0,c0,e,J,e2,e3,G,B⟩,hn⟩:=h;injection J with h1 h2 h3
 subst h1;subst h3;have hl:ls.length=ps.length:=by rw[e,List.length_map]
 have hcut:=G.cut k m c hk om om;have u:((ps.drop k).take (m-k)).length=m-k:=by rw[List.length_take,List.length_drop];omega
 have D:Jm ((ps.drop k).take (m-k))=((Jm ps).drop (k*sz)).take ((m-k)*sz):=by
  rw[Qzb (sz:=sz) (λp i=>(B p (List.mem_of_mem_drop i)).1) (by rw[List.length_drop];omega),Qzf (λp i=>(B p i).1) om]
 refine⟨⟨(ps.drop k).take (m-k),_,c-k,by rw[e];simp[List.map_drop,List.map_take],by rw[u],om,om,by rw[u,D];exact hcut,λp i=>B p (List.mem_of_mem_drop (List.mem_of_mem_take i))⟩,λh0 U Z c' ev j=>?_⟩;injection ev with ev _ _
 have y:ls≠[]:=λO=>h0 (by rw[O];simp);split at ev
 .exact hn y U L c (by rw[ev]) j
 cases A with
 | none=>cases ev
 | some a0=>
  simp only[Option.map_some,Option.some.injEq]at ev;subst ev;rw[Uo]at j;exact hn y a0 L c rfl j
end Go.Wk
namespace Go.Proofs.YtebiphhfkdbpfaaGreatDoor
open Go.RowKit Pl Go.Wk Bl
attribute [local irreducible] WC WL QX WD WDB WP WN WG WH
variable {b base i:Nat}{t:PT}{vb vg vr:Value}{w:World}
def ptK(t:PT)(i:Nat): List PR:=(List.range t.n).map λv=>match(List.range i).reverse.find? λi=>t.basis.getD i 0 == v with
 | none=>pr0
 | some i=>(t.rows.getD i []).getD t.right pr0
theorem ptK_0(t:PT): ptK t 0=List.replicate t.n pr0:=by
 unfold ptK;exact List.eq_replicate_iff.2 ⟨by simp,λx i=>by obtain⟨_,_,e⟩:=List.mem_map.1 i;exact e.symm⟩
theorem Jfp(t:PT)(i:Nat): (ptK t i).length=t.n:=by simp[ptK]
theorem Qhg(h:t.basis.getD i 0<t.n): ptK t (i+1)=(ptK t i).set (t.basis.getD i 0) ((t.rows.getD i []).getD t.right pr0):=by
 refine List.ext_getElem? λv=>?_;have j:∀ k,(ptK t k)[v]?=if v<t.n then some (match(List.range k).reverse.find? λi=>t.basis.getD i 0 == v with|none=>pr0|some i=>(t.rows.getD i []).getD t.right pr0) else none:=λk=>by
  unfold ptK;rw[List.getElem?_map];by_cases hv:v<t.n
  .rw[if_pos hv,List.getElem?_range hv];rfl
  rw[if_neg hv,List.getElem?_eq_none (by simpa using hv)];rfl
 have u:(List.range (i+1)).reverse=i::(List.range i).reverse:=by rw[List.range_succ];simp
 by_cases hv:t.basis.getD i 0=v
 .subst hv;rw[List.getElem?_set_self (by rw[Jfp];exact h),j,if_pos h,u,List.find?_cons];simp only[beq_self_eq_true]
 rw[List.getElem?_set_ne hv,j,j,u,List.find?_cons];have:(t.basis.getD i 0 == v)=false:=by simpa using hv
 rw[this]
theorem Qhh(h:¬ t.basis.getD i 0<t.n): ptK t (i+1)=ptK t i:=by
 unfold ptK;refine List.map_congr_left λv j=>?_;have u:(List.range (i+1)).reverse=i::(List.range i).reverse:=by rw[List.range_succ];simp
 have:(t.basis.getD i 0 == v)=false:=by
  have:=List.mem_range.1 j;exact beq_eq_false_iff_ne.2 om
 rw[u,List.find?_cons,this]
theorem Jsp(t:PT): ptK t t.basis.length=t.point:=rfl
theorem Qhx(hT:TbV w base b vr vg vb t)(hp:POk t)(hn:t.n<=64)(hm:t.m<=64):
  Ret Tryz.prog 95 [.pointer (some ⟨b,0,none⟩)] w λu w'=>GX 3 RtC (TN b vr vb) w' u t.point/\(∀ k,u.ownBlock=some k->w.heap.size<=k)/\Ext w w':=by
 have ac:=hT.lt;have ax:t.rows.length=t.m:=hp.rows;have b2:t.basis.length=t.m:=hp.basis;have D:∀ i (hi:i<t.rows.length),t.rows[i].length=t.n+t.m+2:=λi hi=>by
  have:=(hp.row i (by rw[<-hp.rows];exact hi)).1;rwa [List.getD,List.getElem?_eq_getElem hi]at this
 refine Jz Tryz.func95 Tryz.ntmps95 rfl kr rfl ?_;refine ρ ?_;refine ld (hT.blk.at (i:=0) rfl) ?_;refine ρ ?_;refine cl (Jvg t.n om w) ?_;rintro u w1 ⟨hU,a5⟩;obtain⟨U,uc,_,eu,av,_,_⟩:=id hU.el;rw[List.length_replicate]at eu;subst eu;obtain⟨_,_,_,_,a1⟩:=id hU.form;have ao:∀ k,(TN b vr vb k∨(Value.slice U t.n uc).ownBlock=some k)->TN b vr vb k∨w.heap.size<=k:=λk O=>O.elim .inl λh=>.inr (a1 k h).1;have hR:=hT.rows.old MxC.sta ao;have ak:OX 58 3 RtC (λk=>TN b vr vb k∨(Value.slice U t.n uc).ownBlock=some k) w1 w.heap.size (.slice U t.n uc) (ptK t 0):=by
  rw[ptK_0];exact hU.old RtC.sta λk O=>.inl (O.elim (λh=>.inl (ac k h)) .inr)
 obtain⟨S,sc,eS,aw,_⟩:=Jv hT.bas;have ad:=Rd.own (show w.ownsRow base 3 1 (.slice S t.basis.length sc) t.basis.length (Jb (nz t.basis)) by rw[<-eS];exact hT.bas);subst eS;obtain⟨R,rc,_,eR,ay,an,am⟩:=id hR.el;subst eR;have au:=hT.blk.ext a5;refine ρ ?_;refine ld (au.at (i:=4) rfl) ?_;refine ρ ?_;refine Js (fun (k:Nat)=>[(0,.pointer (some ⟨b,0,none⟩)),(3,.slice U t.n uc),(14,.slice S t.basis.length sc),(15,.int .i64 (t.basis.length:Int)),(16,.int .i64 (k:Int))]) (λk w'=>k<=t.m/\Ext w w'/\OX 58 3 RtC (λk=>TN b (.slice R t.rows.length rc) (.slice S t.basis.length sc) k∨(Value.slice U t.n uc).ownBlock=some k) w' w.heap.size (.slice U t.n uc) (ptK t k)) (λk=>t.m-k) 0 sB ⟨Nat.zero_le _,a5,ak⟩ ?_;rintro k w2 ⟨O,G,a2⟩;refine ρ ?_;refine ci (λh=>?_) (λh=>?_)
 .have a8:k<t.basis.length:=by have:=oT h;omega
  clear h;refine ρ ?_;refine ix k (ad.ext G) a8 ?_;refine ρ ?_;refine ld ((ad.ext G).cell (Qs a8)) ?_;refine ρ ?_;refine ld ((hT.blk.ext G).at (i:=0) rfl) ?_;refine ρ ?_;refine ci (λh=>?_) (λh=>?_)
  .have Z:t.basis.getD k 0<t.n:=by have:=oT h;omega
   clear h;have a3:Ext w2 w2.drew:=(Ext.refl w2).drew;have y:=G.trans a3;have B:k<t.rows.length:=om
   obtain⟨ce,_,⟨vk,rfl,ar⟩,ah⟩:=am k B;obtain⟨K,kc,_,rfl,b1,_,aq,_,ap⟩:=id ar.el;rw[D k B]at *;have a9:w2.drew.cell? (adr R k)=some (.slice K (t.n+t.m+2) kc):=by
    have:=Zz y (ah 0 _ rfl);rwa [Nat.mul_one,add_zero]at this
   obtain⟨cr,_,a4,a7⟩:=ap (t.n+t.m+1) (by rw[D k B];omega);have er:t.rows[k][t.n+t.m+1]'(by rw[D k B];omega)=(t.rows.getD k []).getD t.right pr0:=by simp[PT.right,List.getD,List.getElem?_eq_getElem B,List.getElem?_eq_getElem (show t.n+t.m+1<t.rows[k].length by rw[D k B];omega)]
   rw[er]at a4;have ae:=Qhg Z;generalize (t.rows.getD k []).getD t.right pr0=q at *
   obtain⟨F1,f1,F2,f2,rfl,az⟩:=a4.sl;have ab:=a2.ext RtC.sta a3;have a6:t.n=(ptK t k).length:=(Jfp t k).symm;refine ρ ?_;refine dr [(0,0),(0,1),(0,2),(0,3),(0,4),(0,5),(0,6),(0,7),(0,8),(0,9),(1,10),(0,11),(0,12),(0,13),(2,14)] kr ?_;refine ρd ?_;refine dld ((hT.blk.ext y).at (i:=2) rfl) ?_;refine ρd ?_;refine dix k (an.ext y) B ?_;refine ρd ?_;refine dld a9 ?_;refine ρd ?_;refine dcl (Jjf (n:=t.n) (m:=t.m) (hT.blk.ext y) rfl rfl om om) ?_;rintro _ w3 ⟨rfl,J⟩;refine⟨J,?_⟩;refine ρd ?_;refine Xc 3 (t.n+t.m+1) ((aq.ext y).ext J) om ?_;refine ρd ?_;refine Qb (λj u hu=>Zz (y.trans J) (a7 j u hu)) ?_;refine ρd ?_;have aa:=ab.ext RtC.sta J;obtain⟨_,ai⟩:=aa.rd a6;refine Xc 3 (t.basis.getD k 0) ai Z ?_;refine ρd ?_;refine Jd ?_;refine stX RtC.sta aa a6 (show t.basis.getD k 0<_ by omega) (cs:=[.bool q.neg,.slice F1 _ f1,.slice F2 _ f2]) (a:=q) (RtC.sta.gr a4 (GrN.ext (y.trans J))) (λg hg=>.inr hg) (Qz rfl rfl rfl) ?_
   intro w4 aj ag;refine ρ ?_;exact Jp (k+1) sO ⟨om,Ja (G.trans (a3.trans J)) ag λk O=>(a1 k O).1,by rw[ae];exact aj⟩ om
  have Z:¬ t.basis.getD k 0<t.n:=by have:=oF h;omega
  refine ρ ?_;exact Jp (k+1) sO ⟨om,G,by rw[Qhh Z];exact a2⟩ om
 have af:k=t.basis.length:=by have:=oF h;omega
 subst af;rw[Jsp]at a2;refine ρ ?_;refine Jq ⟨a2.gx RtC.sta ?_ λk O=>⟨.inl O,λe=>by have:=ac k O;have:=(a1 k e).1;omega⟩,λk O=>(a1 k O).1,G⟩;rw[<-Jsp,Jfp];omega
theorem Xjv(hT:TbV w base b vr vg vb t)(hp:POk t)(hn:t.n<=64)(hm:t.m<=64)(h0:0<t.m):
  Ret Tryz.prog 92 [.pointer (some ⟨b,0,none⟩)] w λu w'=>GX 3 RtC (TN b vr vb) w' u t.dual/\(∀ k,u.ownBlock=some k->w.heap.size<=k)/\Ext w w':=by
 have Z:=hT.lt;have O:t.goal.length=t.n+t.m+2:=hp.goal.1;refine Jz Tryz.func92 Tryz.ntmps92 rfl kr rfl ?_;refine ρ ?_;refine ld (hT.blk.at (i:=1) rfl) ?_;refine ρ ?_;refine cl (Jvg t.m om w) ?_;rintro u w1 ⟨hU,a1⟩;obtain⟨U,uc,_,eu,a6,_,_⟩:=id hU.el;rw[List.length_replicate]at eu;subst eu;obtain⟨_,_,_,_,B⟩:=id hU.form;have a5:∀ k,(TN b vr vb k∨(Value.slice U t.m uc).ownBlock=some k)->TN b vr vb k∨w.heap.size<=k:=λk y=>y.elim .inl λh=>.inr (B k h).1;have a4:OX 58 3 RtC (λk=>TN b vr vb k∨(Value.slice U t.m uc).ownBlock=some k) w1 w.heap.size (.slice U t.m uc) (List.replicate t.m pr0):=hU.old RtC.sta λk y=>.inl (y.elim (λh=>.inl (Z k h)) .inr);have hG:=hT.goal.old RtC.sta (by decide) a5;obtain⟨G,gc,_,eG,a2,a8,a7⟩:=id hG.el;subst eG;have hcut:=hG.cut (by decide) (k:=t.n) (m:=t.n+t.m) om (by rw[O];omega);rw[O]at a2;rw[show t.n+t.m-t.n=t.m by omega]at hcut
 have J:Ext w1 w1.drew:=(Ext.refl w1).drew;have j:=a1.trans J;have D:=hT.ext j;refine ρ ?_;refine drC 14 [0,1,5,9,13] [(0,2),(0,3),(0,4),(0,6),(0,7),(0,8),(0,10),(0,11),(0,12),(0,14),(0,15),(0,16),(0,17),(0,18),(2,19)] kr ?_;refine ρp ?_;refine ρd ?_;refine dld (D.blk.at (i:=3) rfl) ?_;refine ρd ?_;refine dld (D.blk.at (i:=0) rfl) ?_;refine ρd ?_;refine dld (D.blk.at (i:=0) rfl) ?_;refine ρd ?_;refine dld (D.blk.at (i:=1) rfl) ?_;refine ρd ?_;refine Xjz Jqs t.n (t.n+t.m) gc rfl rfl rfl rfl ⟨_,_,rfl,rfl⟩ ⟨_,_,rfl,by push_cast;rfl⟩ rfl (.inl rfl) om om (Nat.le_refl _) rfl ?_;rw[show t.n+t.m-t.n=t.m by omega];refine ρd ?_;refine Jd ?_;refine cpX RtC.sta (a4.ext RtC.sta J) (by simp) (hcut.ext RtC.sta (by decide) j) h0 (by decide) (λcs a h=>h) RtC.one (λg hg=>.inr hg) ?_;intro w2 a3 hg2;refine ρ ?_;exact Jq ⟨a3.gx RtC.sta (by simp;omega) λk y=>⟨.inl y,λe=>by have:=Z k y;have:=(B k e).1;omega⟩,λk y=>(B k y).1,Ja j hg2 λk y=>(B k y).1⟩
open Go.RowKit Pl Go.Wk Bl
variable {b fuel n t:Nat}{N:Nat->Prop}{v vA vB vC:Value}{w:World}
abbrev Nn: Nat->Prop:=λ_=>False
theorem zSol: Qe Tryz.prog 128=some (.agg #[.int .i64 0,.slice none 0 0,.slice none 0 0,.slice none 0 0,.bool false,.slice none 0 0,.slice none 0 0]):=kr
theorem Xkp(A B C D:Option Addr)(m c m' c' k d k' d':Nat)(b:Bool)(w:World): (Instr.build 128 #[(0,.int .i64 0),(1,.slice A m c),(2,.slice B m' c'),(4,.agg #[.bool b,.slice C k d,.slice D k' d'])]).run Tryz.prog w=.ok (.agg #[.int .i64 0,.slice A m c,.slice B m' c',.slice none 0 0,.bool b,.slice C k d,.slice D k' d']) w:=kr
theorem Jbr{ls:List PR}{cs:List Value}(h:GX 3 RtC N w v ls)(hB:Blk w b t cs)(hc:∀ u∈cs,∀ z,u≠.int .u32 z)(hv:v.ownBlock≠some b): GX 3 RtC (λk=>N k∨k=b) w v ls:=by
 obtain⟨⟨ps,A,c,e,e1,Z,U,O,j⟩,hn⟩:=h;refine⟨⟨ps,A,c,e,e1,Z,U,O,λp B=>⟨(j p B).1,?_⟩⟩,λh0 ad m c' ev i=>i.elim (hn h0 ad m c' ev) λi=>hv (by rw[ev,<-i];rfl)⟩;obtain⟨x,y,J,G,D⟩:=(j p B).2;exact⟨x,y,J,G.box hB hc,D.box hB hc⟩
theorem noS: ∀ u∈[Value.int .i64 0,.slice none 0 0,.slice none 0 0,.slice none 0 0,.bool false,.slice none 0 0,.slice none 0 0],∀ z,u≠.int .u32 z:=λu i z e=>by
 simp only[List.mem_cons,List.not_mem_nil,or_false]at i;rcases i with rfl|rfl|rfl|rfl|rfl|rfl|rfl<;>cases e
theorem Qdv{A:List (List PR)}{t':PT}(hC:GX 3 RtC N w vC (List.replicate n (PR.int 1)))(hA:GX 1 MxC N w vA A)(hB:GX 3 RtC N w vB (List.replicate A.length (PR.int 1)))(hNw:∀ k,N k->k<w.heap.size)(hbin:Bin n A)(h1:∀ j,j<n->∃ i,i<A.length/\Zj A i j=1)(hn:n<=64)(hm:A.length<=5)(h0:0<A.length)(hf:(n+A.length)^A.length<=fuel)(hmx:PT.maxim (n+A.length) fuel (PT.ofP n A)=some t'):
  Ret Tryz.prog 52 [.agg #[vC,vA,vB]] w λu w'=>∃ X Y q1 q2,u=.tuple #[.agg #[.int .i64 0,X,Y,.slice none 0 0,.bool (t'.goal.getD t'.right pr0).neg,q1,q2],.int .i64 0]/\GX 3 RtC Nn w' X t'.point/\GX 3 RtC Nn w' Y t'.dual/\NatX Nn w' q1 (t'.goal.getD t'.right pr0).num/\NatX Nn w' q2 (t'.goal.getD t'.right pr0).den/\Ext w w':=by
 obtain⟨c5,ca,S,b3,hS,ck⟩:=Jfz hbin h1 hf;rw[hmx]at b3;cases b3
 obtain⟨i1,i2,i3⟩:=Qln hbin;have bn:∀ t S,PSt n A.length (pck n (Zj A)) t S->TSl t:=λt S h=>Qbz h i1 i2 i3 rfl om hm;have aj:=hS.agr.ok;have ch:=hS.en;have cj:=hS.em;obtain⟨CA,cc,_,rfl,bq,_,_,_,_⟩:=id hC.el;obtain⟨AA,ac,_,rfl,co,_,_,_,_⟩:=id hA.el;obtain⟨BA,bc,_,rfl,br,_,_,_,_⟩:=id hB.el;simp only[List.length_replicate]at hC hB bq br ⊢;refine Jz Tryz.func52 Tryz.ntmps52 rfl kr rfl ?_;refine ρ ?_;refine bx ?_;intro w1 b1 aw cn bg;refine ρ ?_;refine alc zSol ?_;intro w2 b2 au bs an;have U:=aw.trans au;have ae:=bg.ext au;have c6:b1≠b2:=by have:=bg.lt;omega
 have bd:=hC.ext RtC.sta (by decide) U;have bh:=hA.ext MxC.sta (by decide) U;have ad:=hB.ext RtC.sta (by decide) U;refine ρ ?_;refine lds (cs:=[.slice CA n cc,.slice AA A.length ac,.slice BA A.length bc]) (λj u hu=>ae.at hu) ?_;refine ρ ?_;refine cl (Qbr bd bh ad hbin om) ?_;rintro _ w3 ⟨rfl,B⟩;have O:=ae.ext B;refine ρ ?_;refine ld (O.at (i:=0) rfl) ?_;refine ρ ?_;refine kf 15 ?_ ?_
 .simp;omega
 refine ρ ?_;refine ld (O.at (i:=2) rfl) ?_;refine ρ ?_;refine cf ?_ ?_
 .simp;omega
 have a3:=U.trans B;refine ρ ?_;refine lds (cs:=[.slice CA n cc,.slice AA A.length ac,.slice BA A.length bc]) (λj u hu=>O.at hu) ?_;refine ρ ?_;refine cl (Qnt (bd.ext RtC.sta (by decide) B) (bh.ext MxC.sta (by decide) B) (ad.ext RtC.sta (by decide) B) hbin hn om) ?_;rintro _ w4 ⟨base,b,vr,vb,rfl,ab,b8,b7,a9,ai⟩;refine ρ ?_;refine cl (Xjb a9 hbin hn om) ?_;rintro _ w5 ⟨rfl,Z⟩;have ax:=a3.trans (ai.trans Z);have be:=(O.ext ai).ext Z;refine ρ ?_;refine ld (be.at (i:=0) rfl) ?_;refine ρ ?_;have c1:=a9.ext Z;have ak:∀ k,TN b vr vb k->w3.heap.size<=k:=λk y=>by
  rcases y with y|y|y
  .rw[y];exact b8
  .obtain⟨_,_,_,_,h⟩:=id a9.rows.form;exact nL ab (h k y).1
  obtain⟨_,_,_,_,h⟩:=Jv a9.bas;exact nL ab (h k y).1
 refine cl (Qnc (N:=TN b vr vb) c1 ((hC.old RtC.sta (by decide) λk y=>.inr (nL a3.size (ak k y))).ext RtC.sta (by decide) ax) (λk y=>y) hbin hn om) ?_;rintro _ w6 ⟨rfl,vg,c0,hg6⟩;have a2:Ext w3 w6:=hg6.old (ai.trans Z) ak;have c8:=O.ext a2;have c7:=(an.ext B).ext a2;have b6:base<=w6.heap.size:=nL b7 (nL Z.size hg6.size);have ah:Ext w6 w6.drew:=(Ext.refl w6).drew;have a5:=c0.ext ah;have ar:=a2.trans ah;refine ρ ?_;refine drH (λi=>i == 10) ?_;refine Ux (fuel':=6) 17 [(0,0),(0,1),(0,2),(0,3),(0,4),(0,5),(0,6),(0,7),(0,8),(0,9)] #[true,true,true,true,true,true,true,true,true,true,false,false,false,false,false,false] kr kr rfl ?_;refine ρd ?_;refine dld (a5.blk.at (i:=0) rfl) ?_;refine ρd ?_;refine dld (a5.blk.at (i:=1) rfl) ?_;refine ρd ?_;refine Yq ?_;refine Vl 10 kr rfl rfl ?_;refine Go.Wk.kv 45 (u:=.int .i64 ((n+A.length:Nat):Int)) (congrArg (Value.int .i64) ((Vn ⟨by show _<=((n:Nat):Int)+((A.length:Nat):Int);omega,by show((n:Nat):Int)+((A.length:Nat):Int)<=_;omega⟩).trans (by show((n:Nat):Int)+((A.length:Nat):Int)=_;omega))) ?_
 refine cl (Qpt a5 (PSt.start hbin) bn c5 hmx om om (nL b6 ah.size)) ?_;rintro _ w7 ⟨rfl,c9,am,hg7⟩;have a1:Ext w3 w7:=hg7.old ar ak;refine Je (Xv (λh=>by cases h) ?_);refine Vl 11 kr rfl rfl ?_;refine ρ ?_;refine Xv (λ_=>Ext.refl _) ?_;refine hmkS 17 0 _ #[true,true,true,true,true,true,true,true,true,true,true,true,true,true,true,true] [12,13,14,15] [47,48,5,6] [SF.eq (.int .i64 0),SF.eq (.bool true),SF.eq (.int .i64 0),SF.eq (.bool true)] kr (by rfl) ?_ ?_
 .refine gsc (λvs v1 ag hd=>?_) ?_
  .simp only[slM];refine ρ ?_;exact Xs (Ext.refl _) rfl
  refine gsc (λvs v1 ag hd=>?_) ?_
  .simp only[slM];refine ρ ?_;exact Xs (Ext.refl _) rfl
  refine gsc (λvs v1 ag hd=>?_) ?_
  .have e0:vs 0=_:=hd 0;simp only[slM,e0];refine ρ ?_;exact Xs (Ext.refl _) rfl
  refine gsc (λvs v1 ag hd=>?_) gse
  have e1:vs 1=_:=hd 1;simp only[slM,e1];refine ρ ?_;exact Xs (Ext.refl _) rfl
 intro vs bi ao hd;have e0:vs 0=_:=hd 0;have e1:vs 1=_:=hd 1;have e2:vs 2=_:=hd 2;have e3:vs 3=_:=hd 3;simp only[slM,e0,e1,e2,e3];clear e0 e1 e2 e3 hd;have am:=am.ext ao;have a1:=a1.trans ao;generalize bi=w7 at *
 refine Vz kr ?_;refine ρ ?_;have aq:Ext w7 w7.drew:=(Ext.refl w7).drew;have a4:=am.ext aq;have aa:=a1.trans aq;refine ρ ?_;refine drC 18 [0,2,4,8] [(0,5),(0,6),(0,7),(1,1),(1,3),(1,9),(0,10),(0,11),(0,12),(2,13),(2,14)] kr ?_;refine ρp ?_;refine ρd ?_;refine dld (a4.blk.at (i:=3) rfl) ?_;refine ρd ?_;refine dcl (Qhx a4 aj om om) ?_;rintro X w8 ⟨hX,bw,a7⟩;refine⟨a7,?_⟩;have ba:=a4.ext a7;refine ρd ?_;refine dcl (Xjv ba aj om om om) ?_;rintro Y w9 ⟨hY,bt,a6⟩;refine⟨a6,?_⟩;have b9:=ba.ext a6;refine ρd ?_;refine dcl (Jjf (n:=t'.n) (m:=t'.m) b9.blk rfl rfl om om) ?_;rintro _ af ⟨rfl,D⟩;refine⟨D,?_⟩;have bb:=b9.ext D;refine ρd ?_;obtain⟨G,gc,_,eG,cm,_,c4,_,c2⟩:=id bb.goal.el;have b4:t'.goal.length=t'.n+t'.m+2:=aj.goal.1;rw[b4]at eG;subst eG;have ap:Ext w3 af:=aa.trans (a7.trans (a6.trans D));have J:=(an.ext B).ext ap
 obtain⟨cr,_,ay,az⟩:=c2 (t'.n+t'.m+1) om;have er:t'.goal[t'.n+t'.m+1]'(by omega)=t'.goal.getD t'.right pr0:=by simp[PT.right,List.getD,List.getElem?_eq_getElem (show t'.n+t'.m+1<t'.goal.length by omega)]
 rw[er]at ay;generalize t'.goal.getD t'.right pr0=q at *
 obtain⟨F1,f1,F2,f2,rfl,bo⟩:=ay.sl;have bp:Rd af 3 G (t'.n+t'.m+2) _:=b4 ▸ c4;refine Xc 3 (t'.n+t'.m+1) bp om ?_;refine ρd ?_;refine Qb (λj u hu=>az j u hu) ?_;refine ρd ?_;obtain⟨X1,X2,_,rfl,_,_,_,_,_⟩:=id hX.el;obtain⟨Y1,Y2,_,rfl,_,_,_,_,_⟩:=id hY.el;refine dbld (λw=>Xkp _ _ _ _ _ _ _ _ _ _ _ _ _ w) ?_;refine ρd ?_;refine Jd ?_;have cg:=an.lt;have ce:=B.size;have cd:=aa.size;have cb:=a7.size;have bz:=Jbr (hX.ext RtC.sta (by decide) (a6.trans D)) J noS (λe=>by have:=bw b2 e;omega);have bu:=Jbr (hY.ext RtC.sta (by decide) D) J noS (λe=>by have:=bt b2 e;omega);obtain⟨_,_,ev,q2,q3⟩:=bo;cases ev
 have bm:=q2.box J noS;have bl:=q3.box J noS;refine stb (cs':=[.int .i64 0,.slice X1 _ X2,.slice Y1 _ Y2,.slice none 0 0,.bool q.neg,.slice F1 _ f1,.slice F2 _ f2]) J ?_ (λu hu=>by
  simp only[List.mem_cons,List.not_mem_nil,or_false]at hu;rcases hu with rfl|rfl|rfl|rfl|rfl|rfl|rfl<;>rfl)
 intro bj bf b5 av;have a8:GrN (λk=>TN b vr vb k∨k=b2) af bj:=GrN.by b5 λk y=>by injection y with y;exact .inr y.symm
 refine ρ ?_;refine Qf ?_;refine Jd ?_;refine ρ ?_;exact Xh bf ⟨_,_,_,_,rfl,(bz.gr RtC.sta (by decide) a8).old RtC.sta (by decide) λk y=>y.elim,(bu.gr RtC.sta (by decide) a8).old RtC.sta (by decide) λk y=>y.elim,(bm.gr a8).old λk y=>y.elim,(bl.gr a8).old λk y=>y.elim,av w (a3.trans ap) (nL aw.size bs)⟩
end Go.Proofs.YtebiphhfkdbpfaaGreatDoor
namespace Go.Wk
open Go.RowKit
variable {base d e k n s ty:Nat}{N:Nat->Prop}{v v':Value}{w w1 w2:World}
theorem Jpv{P:Program}{al:AL}{Q:Exit->Act->World->Prop}{ops:Array Oper}{rest:List Oper}{pos:String}{aft:Array Edge}{x y:Operand}{t yt:TypeId}{k2:IntKind}{v:Nat}(hv:v<=32)(kk:WL P n ops Q rest ((d,.int .u32 ((s / 2^v:Nat):Int))::al) w)(hx:ev al x=some (.int .u32 (s:Int)):=by rfl)(hy:ev al y=some (.int k2 (v:Int)):=by rfl)(hd:Nat.blt d n=true:=by rfl):
  WL P n ops Q (⟨some d,.binOp .shr t x y yt,ty,pos,aft,none⟩::rest) al w:=by
 rw[<-Jrd s v hv]at kk;exact wop hd (λa i=>Jrl hx hy om i (some d) w) kk
theorem Kq{sz m base' e' sz' m':Nat}{xs xs':List Value}(h:w.ownsRow base e sz v m xs)(h':w.ownsRow base' e' sz' v' m' xs')(hne:Nat.beq e e'=false)(hk:v.ownBlock=some k): v'.ownBlock≠some k:=by
 have j:e≠e':=by intro i;subst i;simp at hne
 rcases h.2 with⟨rfl,_⟩|⟨g,cap,cur,rfl,_,hh,_⟩
 .simp[Value.ownBlock]at hk
 intro u;rcases h'.2 with⟨rfl,_⟩|⟨g',cap',cur',rfl,_,hh',_⟩
 .simp[Value.ownBlock]at u
 have B:g=k:=by simpa [Value.ownBlock] using hk
 have y:g'=k:=by simpa [Value.ownBlock] using u
 grind
theorem OX.own{α:Type}{sz:Nat}{Φ:(Nat->Prop)->World->List Value->α->Prop}{ls:List α}(h:OX e sz Φ N w base v ls): ∃ m xs,w.ownsRow base e sz v m xs:=by
 obtain⟨ps,_,i,_⟩:=h;exact⟨_,_,i⟩
theorem GrN.by2{g:Option Nat}(h:GrN N w w1)(hg:w1.grownBy w2 g)(ho:∀ k,g=some k->w.heap.size<=k∨N k): GrN N w w2 :=
 ⟨hg.os.trans h.os,hg.tape.trans h.tape,hg.output.trans h.output,Nat.le_trans h.size hg.size,λk i hn=>(hg.block k (nM i h.size) λe=>(ho k e.symm).elim (λj=>om) hn).trans (h.block k i hn)⟩
end Go.Wk
namespace Go.Proofs.YtebiphhfkdbpfaaGreatDoor
open Go.RowKit Pl Go.Wk Bl
attribute [local irreducible] WC WL QX WD WDB WP WN WG WH
theorem Xqs(n:Nat)(hn:n<=1000)(w:World): Ret Tryz.prog 53 [.int .i64 (n:Int)] w λu w'=>OX 58 3 RtC (Ov w u) w' w.heap.size u (List.replicate n pr0)/\Ext w w':=by
 refine Jz Tryz.func53 Tryz.ntmps53 rfl kr rfl ?_;refine ρ ?_;refine mkRt n hn ?_;intro w1 A a2 hO hA;have hO:=hO (Ov w (.slice A n n));refine ρ ?_;refine Js (fun (k:Nat)=>[(3,.slice A n n),(8,.int .i64 (n:Int)),(9,.int .i64 (k:Int))]) (λk w'=>k<=n/\Ext w w'/\OX 58 3 RtC (Ov w (.slice A n n)) w' w.heap.size (.slice A n n) (mix (List.replicate n pr0) (List.replicate n prz) k)) (λk=>n-k) 0 sB ⟨Nat.zero_le _,a2,by rw[Jjs];exact hO⟩ ?_;rintro k w2 ⟨hk,y,i⟩;have U:(mix (List.replicate n pr0) (List.replicate n prz) k).length=n:=by rw[Kw (by simp) (by simpa using hk)];simp
 refine ρ ?_;refine ci (λh=>?_) (λh=>?_)
 .have B:k<n:=by have:=oT h;omega
  clear h;refine ρ ?_;refine cl (Jjk 0 (by decide) (by decide) w2) ?_;rintro r w3 ⟨hr,J⟩;have e0:PR.int 0=pr0:=rfl;rw[e0]at hr;obtain⟨C,e,D,f,rfl,hc⟩:=hr.cell;have G:=i.ext RtC.sta J;obtain⟨A',c',cs,ev,_,O,_⟩:=id G.el;rw[U]at ev O;injection ev with ev1 ev2 ev3
  subst ev1;refine ρ ?_;refine ixq 3 k O B ?_;refine ρ ?_;obtain⟨_,_,_,_,a3⟩:=id G.form;have a5:k<(mix (List.replicate n pr0) (List.replicate n prz) k).length:=om
  refine stX RtC.sta G U.symm a5 (cs:=[.bool pr0.neg,.slice C _ e,.slice D _ f]) (a:=pr0) (RtC.sta.old hc λj Z=>.inl ?_) (λg hg=>.inr hg) (Qz rfl rfl rfl) ?_
  .rcases Z with Z|Z
   .exact nM Z y.size
   obtain⟨_,_,_,_,h3⟩:=id i.form;exact(h3 j Z).2
  intro w4 a1 a6;rw[Kk (l':=List.replicate n pr0) (l:=List.replicate n prz) (x:=pr0) (by simp) (by simpa using B) (by simp[B])]at a1;refine ρ ?_;exact Jp (k+1) sO ⟨om,Ja (y.trans J) a6 (λg hg=>(a3 g hg).1),a1⟩ om
 have a4:k=n:=by have:=oF h;omega
 subst a4;have e:=Jkz (l':=List.replicate k pr0) (l:=List.replicate k prz) (by simp);rw[List.length_replicate]at e;rw[e]at i;refine ρ ?_;exact Jq ⟨i,y⟩
theorem Qbn{w:World}{A:Option Addr}{c n:Nat}{es:List Nat}(hn:n<=32): Ret Tryz.prog 50 [.agg (grC A c n es).toArray] w λu w'=>u=.int .u32 ((2^n-1:Nat):Int)/\Ext w w':=by
 have D:=Ku hn;have y:0<2^n:=Nat.two_pow_pos n;refine Jz Tryz.func50 Tryz.ntmps50 rfl kr rfl ?_;refine ρ ?_;refine bx (cs:=grC A c n es) ?_;intro w1 b j G B;refine ρ ?_;refine ld (B.at (i:=0) rfl) ?_;refine ρ ?_;refine sl64 (v:=n) om ?_;refine ρ ?_;refine Jq ⟨?_,j⟩;generalize 2^n=p at *
 congr 1
 rw[IntKind.wrap_u64,IntKind.wrap_u32];omega
end Go.Proofs.YtebiphhfkdbpfaaGreatDoor
