/- Part 3. -/
import Derived.Test.YtebcagekopgdhaaGreatDoorKwx47
set_option linter.unusedVariables false
set_option maxRecDepth 100000
set_option maxHeartbeats 40000000
namespace Go.Proofs.YtebcagekopgdhaaGreatDoor
open Go.RowKit Pl Go.Wk
attribute [local irreducible] WC WL QX WD WDB WP WN WG WH WM
theorem natOff{w:World}{v:Value}{n b t:Nat}{cs:List Value}(h:NatV w v n)(hB:Blk w b t cs)(hs:∀ u∈cs,∀ z,u≠.int .u32 z): Off (λk=>k=b) w λu=>NatV u v n:=by
 obtain ⟨A,c,rfl,C,G,U⟩:=h;refine (Jnm U λh0 O e (Z:O.block=b)=>?_).imp λu hu=>⟨A,c,rfl,C,G,hu⟩;obtain ⟨a2,J,a1,o⟩:=U.2 h0;rw [e]at J;injection J with J
 subst J;rw [Qrn]at h0;have C:=o 0 _ (Zy h0);rw [add_zero]at C;have G:=World.cell?_spot C;have h5:O=⟨b,O.off,none⟩:=by
  obtain ⟨qb,qo,qs⟩:=O;simp only at G Z;subst G;subst Z;rfl
 rw [h5,hB.cell]at C;exact hs _ (List.mem_of_getElem? C) _ rfl
theorem CuV.off{w:World}{x cu:Value}{p st b t:Nat}{cs:List Value}(h:CuV w x cu p st)(hB:Blk w b t cs)(hs:∀ u∈cs,∀ z,u≠.int .u32 z): Off (λk=>k=b) w λu=>CuV u x cu p st:=by
 obtain ⟨A1,A2,A3,A4,A5,O,J,G,C,o,c1,c2,c3,c4,c5,pv,h1,h2,Z⟩:=h;exact (natOff Z hB hs).imp λu U=>⟨A1,A2,A3,A4,A5,O,J,G,C,o,c1,c2,c3,c4,c5,pv,h1,h2,U⟩
theorem no_u32{A B C D E F:Option Addr}{a b c d e f a' b' c' d' e' f':Nat}{z:Int}: ∀ u∈[Value.slice A a a',.slice B b b',.slice C c c',.slice D d d',.slice E e e',.slice F f f',.int .i64 z],∀ s,u≠.int .u32 s:=λu o s=>by
 simp only [List.mem_cons,List.not_mem_nil,or_false]at o;rcases o with rfl|rfl|rfl|rfl|rfl|rfl|rfl<;>simp
theorem CuV.parts{w:World}{A B C D E:Option Addr}{a b c d e a' b' c' d' e':Nat}{cu:Value}{p st:Nat}(h:CuV w (.agg #[.slice A a a',.slice B b b',.slice C c c',.slice D d d',.slice E e e']) cu p st):
  ∃ Q q,cu=.agg #[.slice A a a',.slice B b b',.slice C c c',.slice D d d',.slice E e e',.slice Q (Jq p).length q,.int .i64 (st:Int)]:=by
 obtain ⟨A1,A2,A3,A4,A5,n1,Z,U,O,J,c1,c2,c3,c4,c5,pv,o,G,u⟩:=h;obtain ⟨Q,q,rfl,_⟩:=id u;simp only [Value.agg.injEq,Array.mk.injEq,List.cons.injEq,Value.slice.injEq,and_true]at o;obtain ⟨⟨rfl,rfl,rfl⟩,⟨rfl,rfl,rfl⟩,⟨rfl,rfl,rfl⟩,⟨rfl,rfl,rfl⟩,⟨rfl,rfl,rfl⟩⟩:=o;exact ⟨Q,q,G⟩
theorem limbs_s{p:Nat}(h:p<4294967296): (Jq p).length<=1:=by
 rcases Nat.eq_zero_or_pos p with rfl|h0
 .rw [limbs_0];simp
 .rw [Qfj om h];simp
def exB: Cse:=Xz [false,false] (nR 1 2) (nR 1 3) (nR 2 1)
theorem exB_good: Qxz exB:=goodE rfl ⟨rfl,rfl⟩ ⟨rfl,rfl⟩ ⟨rfl,rfl⟩
theorem exB_ans: exB.ans=[nR 1 2,nR 1 3,nR 2 1]:=by decide
theorem exB_fit: ∀ i,i<exB.rss.length->∀ r∈exB.rss.getD i [],∀ u∈r,Va u:=λi hi r C u o=>by
 have:i=0:=by simp [exB,Xz]at hi;exact hi
 subst this;simp only [exB,Xz,List.getD_cons_zero,List.mem_cons,List.not_mem_nil,or_false]at C;rcases C with rfl|rfl|rfl <;>
 .simp only [nR,List.mem_cons,List.not_mem_nil,or_false]at o;rcases o with rfl|rfl<;>exact Qdn (by decide)
theorem FewS.p{c:Cse}(h:FewS c): FewP c:=⟨h.row,h.cnt,.inl h.n6,h.v5,h.r5⟩
def SF.of(b n:Nat)(p:World->Value->Prop): SF:=⟨λv w=>∃ A c,v=.slice A n c/\Off (λk=>k=b) w λu=>p u v,λ⟨A,c,e,h1⟩ hx=>⟨A,c,e,h1.ext hx⟩⟩
theorem zCse: Qt Tryz.prog 53=some (.agg #[.int .i64 0,.int .i64 0,.slice none 0 0,.slice none 0 0,.slice none 0 0,.slice none 0 0]):=kr
theorem IntssV.lit1{w:World}{b:Nat}{v:Value}{zs:List Int}(h:Blk w b 44 [v])(hv:IntsV w v zs): IntssV w (.slice (some ⟨b,0,none⟩) 1 1) [zs]:=⟨_,1,[v],rfl,Nat.le_refl _,by simp,h.rd rfl,λi hi=>by
 have:i=0:=by simp at hi;exact hi
 subst this;exact ⟨v,rfl,hv⟩⟩
theorem RowssV.lit1{w:World}{b:Nat}{v:Value}{rs:List Row}(h:Blk w b 54 [v])(hv:RowsV w v rs): RowssV w (.slice (some ⟨b,0,none⟩) 1 1) [rs]:=⟨_,1,[v],rfl,Nat.le_refl _,by simp,h.rd rfl,λi hi=>by
 have:i=0:=by simp at hi;exact hi
 subst this;exact ⟨v,rfl,hv⟩⟩
def exF(b:Nat): List SF:=[
 SF.of b 2 (λw v=>BoolsV w v [false,false]),SF.of b 2 (λw v=>IntsV w v [0,1]),SF.of b 1 (λw v=>IntssV w v [[0,1]]),
 SF.eq (nV 1).val,SF.eq (nV 2).val,SF.of b 2 (λw v=>RowV w v (nR 1 2)),SF.eq (nV 1).val,SF.eq (nV 3).val,SF.of b 2 (λw v=>RowV w v (nR 1 3)),SF.eq (nV 2).val,SF.eq (nV 1).val,SF.of b 2 (λw v=>RowV w v (nR 2 1)),
 SF.of b 3 (λw v=>RowsV w v [nR 1 2,nR 1 3,nR 2 1]),SF.of b 1 (λw v=>RowssV w v [[nR 1 2,nR 1 3,nR 2 1]])]
theorem example44_any(w:World): Ret Tryz.prog 62 [] w λu w'=>∃ cs,u=.agg cs.toArray/\CseV w' cs exB/\Ext w w':=by
 refine Jz Tryz.func62 Tryz.ntmps62 rfl kr rfl ?_;refine ρ ?_;refine alc zCse ?_;intro w1 b1 a9 ab a7;refine ρ ?_;have Z:∀ G,Ext w1.drew G->b1<G.heap.size:=λG hx=>((a7.ext (Ext.refl w1).drew).ext hx).lt;refine drH (λi=>Nat.beq i 15) ?_;refine hmk 14 16 2 [1,2,3,4,5,6,7,8,9,10,11,12,13,14] (exF b1) kr (by rfl) ?_ ?_
 .refine gmc (λvs G C J=>?_) ?_
  .refine mkn EB 2 (by decide) (by decide) ?_;intro O A o ho hf;have e:(madeCells (Value.bool false).cells (2*1)).toList=[Value.bool false,.bool false]:=by rw [Nat.mul_one];exact Uj _ _
   rw [e]at ho;exact Jh (mdone o ⟨A,2,rfl,(Jnm (Rd.own ho) λ_ ad e=>by have:=hf ad e;have:=Z G C;show ¬ ad.block=b1;omega).imp λu hu=>⟨A,2,rfl,Nat.le_refl _,by decide,hu⟩⟩)
  refine gmc (λvs G C J=>?_) ?_
  .refine bsl (bs2I _ _) ?_;intro O b o hb hk;exact Jh (mdone o ⟨_,_,rfl,λW U=>⟨some ⟨b,0,none⟩,2,rfl,Nat.le_refl _,by decide,(Jd hk U (by have:=Z G C;omega)).rd rfl⟩⟩)
  refine gmc (λvs G C J=>?_) ?_
  .obtain ⟨A,c,e,h⟩:=J 1;simp only [slM,e]at h ⊢;refine bsl (bs1II _ _ _) ?_;intro O b o hb hk;exact Jh (mdone o ⟨_,_,rfl,λW U=>IntssV.lit1 (Jd hk U (by have:=Z G C;omega)) (Off.ext h o W U)⟩)
  refine gmc (λvs G C J=>?_) ?_
  .refine cl (num44_any 1 _) ?_;rintro _ O ⟨rfl,o⟩;exact Jh (mdone o rfl)
  refine gmc (λvs G C J=>?_) ?_
  .refine cl (num44_any 2 _) ?_;rintro _ O ⟨rfl,o⟩;exact Jh (mdone o rfl)
  refine gmc (λvs G C J=>?_) ?_
  .have e3:vs 3=(nV 1).val:=J 3;have e4:vs 4=(nV 2).val:=J 4;simp only [slM,e3,e4];refine bsl (bs2V _ _) ?_;intro O b o hb hk;exact Jh (mdone o ⟨_,_,rfl,λW U=>litRow (r:=nR 1 2) (Jd hk U (by have:=Z G C;omega)) (by decide)⟩)
  refine gmc (λvs G C J=>?_) ?_
  .refine cl (num44_any 1 _) ?_;rintro _ O ⟨rfl,o⟩;exact Jh (mdone o rfl)
  refine gmc (λvs G C J=>?_) ?_
  .refine cl (num44_any 3 _) ?_;rintro _ O ⟨rfl,o⟩;exact Jh (mdone o rfl)
  refine gmc (λvs G C J=>?_) ?_
  .have e3:vs 6=(nV 1).val:=J 6;have e4:vs 7=(nV 3).val:=J 7;simp only [slM,e3,e4];refine bsl (bs2V _ _) ?_;intro O b o hb hk;exact Jh (mdone o ⟨_,_,rfl,λW U=>litRow (r:=nR 1 3) (Jd hk U (by have:=Z G C;omega)) (by decide)⟩)
  refine gmc (λvs G C J=>?_) ?_
  .refine cl (num44_any 2 _) ?_;rintro _ O ⟨rfl,o⟩;exact Jh (mdone o rfl)
  refine gmc (λvs G C J=>?_) ?_
  .refine cl (num44_any 1 _) ?_;rintro _ O ⟨rfl,o⟩;exact Jh (mdone o rfl)
  refine gmc (λvs G C J=>?_) ?_
  .have e3:vs 9=(nV 2).val:=J 9;have e4:vs 10=(nV 1).val:=J 10;simp only [slM,e3,e4];refine bsl (bs2V _ _) ?_;intro O b o hb hk;exact Jh (mdone o ⟨_,_,rfl,λW U=>litRow (r:=nR 2 1) (Jd hk U (by have:=Z G C;omega)) (by decide)⟩)
  refine gmc (λvs G C J=>?_) ?_
  .obtain ⟨A,c,e,h⟩:=J 5;obtain ⟨A',c',e',h'⟩:=J 8;obtain ⟨a5,a4,a3,a1⟩:=J 11;simp only [slM,e,e',a3]at h h' a1 ⊢;refine bsl (bs3R _ _ _ _ _ _ _ _ _) ?_;intro O b o hb hk;refine Jh (mdone o ⟨_,_,rfl,λW U=>?_⟩);refine litRows [(.slice A 2 c,nR 1 2),(.slice A' 2 c',nR 1 3),(.slice a5 2 a4,nR 2 1)] (Jd hk U (by have:=Z G C;omega)) (λp hp=>?_) (by simp);simp only [List.mem_cons,List.not_mem_nil,or_false]at hp;rcases hp with rfl|rfl|rfl
   .exact Off.ext h o W U
   .exact Off.ext h' o W U
   .exact Off.ext a1 o W U
  refine gmc (λvs G C J=>?_) gme
  .obtain ⟨A,c,e,h⟩:=J 12;simp only [slM,e]at h ⊢;refine bsl (bs1RR _ _ _) ?_;intro O b o hb hk;exact Jh (mdone o ⟨_,_,rfl,λW U=>RowssV.lit1 (Jd hk U (by have:=Z G C;omega)) (Off.ext h o W U)⟩)
 .intro vs G C hf;obtain ⟨A,c,e,h⟩:=hf 0;obtain ⟨A',c',e',h'⟩:=hf 2;obtain ⟨a5,a4,a3,a1⟩:=hf 13;simp only [slM,e,e',a3]at h h' a1 ⊢;refine Zf 16 [(0,14),(2,15)] (fuel':=0) (lst 16 16) kr kr rfl ?_;refine dbld (bldCase _ _ _ _ _ _ _ _ _) ?_;have a6:Ext w1 G:=(Ext.refl w1).drew.trans C;refine Jo ?_;refine stW ((a7.ext (Ext.refl w1).drew).ext C) ?_;intro O ac aa o;refine Jh (Ql ?_);refine Uw (Xx ?_);refine hend kr ?_;have a8:Ext w O:=o w (a9.trans a6) ab;have a2:GrN (λk=>k=b1) G O:=GrN.by aa λk hk=>by injection hk with hk;exact hk.symm
  refine ρ ?_;exact Jqv ac ⟨_,rfl,⟨A,c,none,0,A',c',a5,a4,rfl,h O a2,⟨none,0,rfl,Nat.le_refl _,Nat.zero_le _,Rd.nil⟩,h' O a2,a1 O a2,by simp [exB,Xz],by simp [exB,Xz]⟩,a8⟩
theorem no_str5{A B C D E:Option Addr}{a b c d e a' b' c' d' e':Nat}: ∀ u∈[Value.slice A a a',.slice B b b',.slice C c c',.slice D d d',.slice E e e'],∀ s,u≠.string s:=λu o s=>by
 simp only [List.mem_cons,List.not_mem_nil,or_false]at o;rcases o with rfl|rfl|rfl|rfl|rfl<;>simp
theorem RowsV.off{w:World}{v:Value}{L:List Row}{b t:Nat}{cs:List Value}(h:RowsV w v L)(hf:∀ ad m c,v=.slice (some ad) m c->ad.block≠b)(hB:Blk w b t cs)(hs:∀ u∈cs,∀ s,u≠.string s): Off (λk=>k=b) w λu=>RowsV u v L:=by
 obtain ⟨ps,A,c,rfl,rfl,U,O,J,G⟩:=h;exact λW o=>⟨ps,A,c,rfl,rfl,U,O,Zo J o (λ_ ad e=>hf ad _ _ (by rw [e])),λp C=>by
  obtain ⟨A',c',e1,e2,e3,Z⟩:=G p C;exact ⟨A',c',e1,e2,e3,(rowOff Z hB hs) W o⟩⟩
theorem made44_any{B0:Nat}{w:World}{cs:List Value}{c:Cse}(hTB:TB B0 w)(h:CseV w cs c)(hfit:∀ i,i<c.rss.length->∀ r∈c.rss.getD i [],∀ u∈r,Va u):
  Ret Tryz.prog 23 [.agg cs.toArray] w λu w'=>Ext w w'/\((u=.tuple #[.agg #[.slice none 0 0,.slice none 0 0,.slice none 0 0,.slice none 0 0,.slice none 0 0],.slice none 0 0,.bool false,.bool true]/\¬ Qxz c) ∨
   ∃ (ats:List Atm) (x av:Value) (kf:Nat->Nat) (pf:Nat->Int) (BB:Nat->List BkT) (tot:Nat),CseOk c ats/\u=.tuple #[x,av,.bool true,.bool true]/\IxA w' x c.F c.ds kf pf BB tot c.ans/\RowsV w' av c.ans):=by
 obtain ⟨dA,dc,pA,pc,vA,vc,rA,rc,rfl,hD,hP,hV,hR,hn,hf⟩:=id h;refine Jz Tryz.func23 Tryz.ntmps23 rfl kr rfl ?_;refine ρ ?_;refine bx ?_;intro w1 b a8 hb hB;refine ρ ?_;refine alc Jyj ?_;intro w2 b2 aq b8 c9;have bf:=hB.ext aq;refine ρ ?_;refine ldW bf ?_;refine ρ ?_;refine cl (Qrp (h.ext (a8.trans aq))) ?_;rintro u w3 ⟨ap,cn,ce,aA,cm,cd,ac,an,ok,rfl,c1,c0,bq,b1⟩;refine ρ ?_;refine alc zInp ?_;intro w4 b4 bm bu c8;refine ρ ?_;refine stW c8 ?_;intro w5 c7 ck bl;have U:Ext w3 w5:=bl w3 bm bu;have bc:=(c9.ext ap).ext U;have aj:=(bf.ext ap).ext U;have ae:=((a8.trans aq).trans ap).trans U;refine ρ ?_;refine ldW aj ?_;refine ρ ?_;refine cl (few_any (h.ext ae)) ?_;rintro u w6 ⟨a4,fw,rfl,b6,br⟩;have O:=U.trans a4;have Z:=ae.trans a4;have a6:=bc.ext a4;refine ρ ?_;refine Vm (fun (t:Bool)=>[(22,.bool t),(1,.pointer (some ⟨b,0,none⟩)),(2,.pointer (some ⟨b2,0,none⟩)),(3,.slice none 0 0),(4,.bool false),(5,.bool false),(6,.pointer (some ⟨b4,0,none⟩)),(7,.bool ok)]) (λt w7=>w7=w6/\t = !(fw && ok)) ?_ ?_
 .cases fw with
  | false=>
   refine ρ ?_;exact Jb true sB ⟨rfl,rfl⟩
  | true=>
   refine ρ ?_;exact Jb (!ok) sB ⟨rfl,by simp⟩
 rintro t w7 ⟨rfl,ht⟩;refine ρ ?_;refine ci (λh=>?_) (λh=>?_)
 .subst h;refine ρ ?_;refine bld (Qrt _) ?_;refine ρ ?_;refine stW a6 ?_;intro w8 c6 cj a3;have bi:Ext w w8:=a3 w Z (nL a8.size b8);refine ρ ?_;refine finC4 c6 ⟨bi,.inl ⟨rfl,λhG=>?_⟩⟩;have h1:=br hG.1;have h2:=b1 hG.2.1 hG.2.2;rw [h1,h2]at ht;cases ht
 .subst h;obtain ⟨cb,ca⟩:fw=true/\ok=true:=by
   cases fw<;>cases ok<;>simp at ht ⊢
  subst cb;subst ca;obtain ⟨b3,ats,bw,hG,hmk,b7⟩:=bq rfl;have J:CseOk c ats:=⟨b6 rfl,b3,bw,hmk,b7 trivial,hfit⟩;have bb:=c7.ext a4;refine ρ ?_;refine ldW bb ?_;obtain ⟨ts,a9,c4⟩:=bldV_of J (c1.ext O) (c0.ext O) (hG.ext O λcs a ⟨t,e,h⟩=>⟨t,e,h.ext O⟩);have bo:ts.length=c.m:=by have:=J.al;rw [a9,List.length_map]at this;exact this
  refine ρ ?_;refine cl (Qrr (hTB.ext Z) (J.bldI a9) c4) ?_;rintro u w8 ⟨a3,x,st,kf,pf,R,rfl,hE,ag⟩;obtain ⟨XA,xd,YA,yd,ZA,zd,UA,ud,tv,cg,cc,rfl,_,_,_,_,_,_,bn,_⟩:=id ag.here.ex;obtain ⟨TA,tc,rfl,_⟩:=id bn;have ah:=a6.ext a3;refine ρ ?_;refine alc Jyj ?_;intro wa b9 bj bt c3;refine ρ ?_;refine stW c3 ?_;intro w9 c5 ch ax;have a7:Ext w8 w9:=ax w8 bj bt;have ab:Ext w w9:=(Z.trans a3).trans a7;have bs:=a6.lt;have aw:¬ b=b2:=λe=>by have:=hB.lt;omega
  have bh:¬ b9=b2:=λe=>by have:=ah.lt;omega
  have bd:=((aj.ext a4).ext a3).ext a7;have a5:=ah.ext a7;have ar:=ag.ext a7;have a2:Ext w9 w9.drew:=(Ext.refl w9).drew;have ao:=ab.trans a2;have c2:=c5.ext a2;have ai:=bd.ext a2;have bz:=CseV.rin (hV.ext ao) (hR.ext ao) J;have bp:c.rss.length=c.m:=by rw [<-J.len];rfl
  refine ρ ?_;refine drN (λk=>k=b2) 13 [(0,0),(0,1),(0,3),(0,4),(0,6),(0,7),(1,2),(1,5),(1,8),(0,9),(0,10),(0,11)] kr ?_;refine ρn ?_;refine Xd (cs:=[.slice XA c.F xd,.slice YA c.F yd,.slice ZA c.F zd,.slice UA c.F ud,.slice TA _ tc]) (λw' hg j u hu=>(Jd c2 hg bh).at hu) ?_;refine ρn ?_;refine Xd (cs:=[.int .i64 c.n,.int .i64 c.f,.slice dA c.ds.length dc,.slice pA c.pm.length pc,.slice vA c.vs.length vc,.slice rA c.rss.length rc]) (λw' hg j u hu=>(Jd ai hg aw).at hu) ?_;refine ρn ?_;refine nld (Jm (ai.at (i:=2) rfl) aw) ?_;refine ρn ?_;refine nop ?_;refine cl ref_any ?_;rintro u am ⟨rfl,C⟩;refine ρ ?_;refine Je (GrN.ext C) ?_;refine ρn ?_;refine nop ?_;have hA:Ret Tryz.prog 60 [.agg #[.int .i64 c.n,.int .i64 c.f,.slice pA c.pm.length pc,.slice vA c.vs.length vc,.slice rA c.rss.length rc],.slice dA c.ds.length dc] am λu w'=>RowsV w' u c.ans/\Ext am w'/\Fresh am u:=by
   rw [J.nN.1,J.fF.1,bp];exact Qrq (pA:=pA) (pn:=c.pm.length) (pc:=pc) (vc:=vc) (rc:=rc) J.refP (bz.ext C) (by have:=J.nN.2;omega) J.fF.2 (hD.ext (ao.trans C))
  refine cl hA ?_;rintro av bg ⟨bv,af,ba⟩;refine ρ ?_;refine Je (GrN.ext af) ?_;refine ρn ?_;refine nop ?_;have o:=(a2.trans C).trans af;refine stW (a5.ext o) ?_;intro ak be b5 ay;have G:GrN (λk=>k=b2) bg ak:=GrN.by b5 λk hk=>by injection hk with hk;exact hk.symm
  have a1:Ext w ak:=ay w (ab.trans o) (nL a8.size b8);have au:=(RowsV.off bv (λad m c e e2=>by have h1:=ba ad m c e;have h2:=(a2.trans C).size;have h3:=a5.lt;omega) (a5.ext o) no_str5) ak G;refine Jh (Je G ?_);refine ρn ?_;refine ρ ?_;have aa:=(ar.ext o).gr (G.mono λk _ hk=>by rw [hk];exact bs);exact finC4 be ⟨a1,.inr ⟨ats,_,av,kf,pf,_,_,J,rfl,ixA_of ⟨B0,hTB.ext a1⟩ (J.bldI a9) (rsA_ts a9) hE aa.here J.ans.1 (λy=>by rw [bo];exact J.ans.2 y) (by have:=J.anl;omega),au⟩⟩
set_option linter.constructorNameAsVariable false in
theorem awake44_any{B0:Nat}{w:World}(hTB:TB B0 w): Ret Tryz.prog 24 [] w λu w'=>u=.bool true/\Ext w w':=by
 refine Jz Tryz.func24 Tryz.ntmps24 rfl kr rfl ?_;refine ρ ?_;refine cl (example44_any _) ?_;rintro _ w1 ⟨cs,rfl,hC,cg⟩;refine ρ ?_;refine cl (Qrp hC) ?_;rintro u w2 ⟨ce,dA,pA,aA,dc,pc,ac,an,ok,rfl,hD,hP,cp,bm⟩;obtain rfl:ok=true:=bm exB_good.2.1 exB_good.2.2;obtain ⟨bp,ats,d0,hG,hmk,bz⟩:=cp rfl;have G:CseOk exB ats:=⟨exB_good.1.p,bp,d0,hmk,bz trivial,exB_fit⟩;refine ρ ?_;refine alc zInp ?_;intro w3 b3 cd cz d3;refine ρ ?_;refine stW d3 ?_;intro w4 d2 du cc;have o:Ext w2 w4:=cc w2 cd cz;have a9:=(cg.trans ce).trans o;refine ρ ?_;refine ldW d2 ?_;obtain ⟨ts,a7,d1⟩:=bldV_of G (hD.ext o) (hP.ext o) (hG.ext o λcs a ⟨t,e,h⟩=>⟨t,e,h.ext o⟩);have cj:ts.length=exB.m:=by have:=G.al;rw [a7,List.length_map]at this;exact this
 refine ρ ?_;refine cl (Qrr (hTB.ext a9) (G.bldI a7) d1) ?_;rintro u w5 ⟨cb,x,st,kf,pf,R,rfl,hE,ah⟩;have a8:=a9.trans cb;have a5:=ixA_of ⟨B0,hTB.ext a8⟩ (G.bldI a7) (rsA_ts a7) hE ah.here G.ans.1 (λy=>by rw [cj];exact G.ans.2 y) (by have:=G.anl;omega);obtain ⟨BB,c0⟩:∃ BB,BB=BBx (Zs exB.N pf (TV exB.N exB.F kf pf R exB.ds (plO (toN exB.pm) exB.F)) (ts.map (·.2))) exB.N exB.F kf pf R exB.ds (plO (toN exB.pm) exB.F):=⟨_,rfl⟩
 obtain ⟨tot,ag⟩:∃ tot,tot=Zs exB.N pf (TV exB.N exB.F kf pf R exB.ds (plO (toN exB.pm) exB.F)) (ts.map (·.2)):=⟨_,rfl⟩
 rw [<-c0,<-ag,exB_ans]at a5;clear c0 ag ah hE;obtain ⟨XA,xd,YA,yd,ZA,zd,UA,ud,tv,dq,dn,rfl,_,_,_,_,_,_,ch,_⟩:=id a5.ix.ex;obtain ⟨TA,tc,rfl,_⟩:=id ch;refine ρ ?_;refine alc Jyj ?_;intro w6 b6 ca cy cw;refine ρ ?_;refine stW cw ?_;intro w7 cv dt c9;have ae:Ext w5 w7:=c9 w5 ca cy;have b4:=a8.trans ae;have aq:=a5.ext ae;refine ρ ?_;refine ldW cv ?_;refine ρ ?_;refine cl start_any ?_;rintro cu w8 ⟨cx,b5⟩;refine ρ ?_;refine cl (next_any (aq.ext b5) cx (by rw [limbs_0];decide)) ?_;rintro u w9 ⟨c8,e1,A1,c1,dm,rfl,ao,cn,cr,dx,_⟩;have ad:=b5.trans c8;have b2:=b4.trans ad;have ap:=aq.ext ad;refine ρ ?_;refine alc zCur ?_;intro dj c4 bl a4 bu;obtain ⟨Q1,q1,rfl⟩:=ao.parts;refine ρ ?_;refine stW bu ?_;intro c7 aj d4 bj;have U:Ext w9 c7:=bj w9 bl a4;refine ρ ?_;refine ldW aj ?_;refine ρ ?_;refine cl (next_any (ap.ext U) (ao.ext U) (nL (limbs_s (by decide)) (by decide))) ?_;rintro u c6 ⟨af,e0,A2,c2,dl,rfl,am,cm,bq,dw,_⟩
 obtain ⟨Q2,q2,rfl⟩:=am.parts;have a2:=aj.ext af;refine ρ ?_;refine stW a2 ?_;intro a6 ai bw bi;have a3:GrN (λk=>k=c4) c6 a6:=GrN.by bw λk hk=>by injection hk with hk;exact hk.symm
 have ab:Ext w9 a6:=bi w9 (U.trans af) a4;have ax:=(am.off a2 no_u32) a6 a3;have bo:=(rowOff cm a2 no_str) a6 a3;refine ρ ?_;refine ldW ai ?_;refine ρ ?_;refine cl (prev_any (ap.ext ab) ax (nL (limbs_s (by decide)) (by decide))) ?_;rintro u c5 ⟨Z,dz,A3,c3,dk,rfl,ak,ck,cq,dv,_⟩;obtain ⟨Q3,q3,rfl⟩:=ak.parts;have J:=ai.ext Z;refine ρ ?_;refine stW J ?_;intro O bt bv bh;have C:GrN (λk=>k=c4) c5 O:=GrN.by bv λk hk=>by injection hk with hk;exact hk.symm
 have aa:Ext w9 O:=bh w9 (ab.trans Z) a4;have aw:=(ak.off J no_u32) O C;have bn:=(rowOff ck J no_str) O C;have a1:=(rowOff (Rd.ext bo Z) J no_str) O C;have av:RdR O A1 (nR 1 2):=Rd.ext cn aa;refine ρ ?_;refine cl (num44_any 1 _) ?_;rintro _ di ⟨rfl,bg⟩;refine ρ ?_;refine cl (num44_any 2 _) ?_;rintro _ dh ⟨rfl,bf⟩;refine ρ ?_;refine bsl (bs2V _ _) ?_;intro dg e3 be d6 bs;have b1:=(bg.trans bf).trans be;refine ρ ?_;refine cl (Jmm (a:=nR 1 2) ⟨A1,c1,rfl,cr,by decide,Rd.ext av b1⟩ (litRow (r:=nR 1 2) bs (by decide))) ?_;rintro _ df ⟨rfl,bd⟩;rw [decide_eq_true rfl];refine ρ ?_;refine cl (num44_any 1 _) ?_;rintro _ de ⟨rfl,bc⟩;refine ρ ?_;refine cl (num44_any 3 _) ?_;rintro _ dd ⟨rfl,bb⟩;refine ρ ?_;refine bsl (bs2V _ _) ?_;intro db e2 ba d5 br;have ay:=((b1.trans bd).trans (bc.trans bb)).trans ba;refine ρ ?_;refine cl (Jmm (a:=nR 1 3) ⟨A2,c2,rfl,bq,by decide,Rd.ext a1 ay⟩ (litRow (r:=nR 1 3) br (by decide))) ?_
 rintro _ da ⟨rfl,b9⟩;rw [decide_eq_true rfl];have au:=ay.trans b9;refine ρ ?_;refine cl (Jmm (a:=nR 1 3) (b:=nR 1 3) ⟨A3,c3,rfl,cq,by decide,Rd.ext bn au⟩ ⟨A2,c2,rfl,bq,by decide,Rd.ext a1 au⟩) ?_;rintro _ d9 ⟨rfl,o⟩;rw [decide_eq_true rfl];have ar:=au.trans o;refine ρ ?_;refine ldW (bt.ext ar) ?_;refine ρ ?_;refine cl (pos_any (aw.ext ar) (nL (limbs_s (by decide)) (by decide))) ?_;rintro pv d8 ⟨co,b8⟩;refine ρ ?_;refine cl (is44_any (n:=1) co (by decide)) ?_;rintro _ d7 ⟨rfl,b7⟩;refine ρ ?_;exact Jj ⟨rfl,(b2.trans aa).trans ((ar.trans b8).trans b7)⟩
open Go.RowKit Pl Go.Wk
section
variable {w:World} {x:Value} {f:Nat} {ds:List Bool} {kf:Nat->Nat} {pf:Nat->Int} {BB:Nat->List BkT} {tot:Nat} {L:List Row}
abbrev IxA.Cu(h:IxA w x f ds kf pf BB tot L)(W:World)(cu:Value)(p st:Nat): Prop:=CuV W x cu p st
end
section
variable {w:World} {x:Value} {f:Nat} {ds:List Bool} {kf:Nat->Nat} {pf:Nat->Int} {BB:Nat->List BkT} {tot:Nat} {L:List Row}
end
theorem cmpN_self(p:Nat): Yl p p=0:=by unfold Yl;rw [if_neg om,if_neg om]
end Go.Proofs.YtebcagekopgdhaaGreatDoor
namespace Go.Proofs.YtebcagekopgdhaaGreatDoor
open Go.RowKit Pl Go.Wk
namespace Pl
def rkS(X:IX)(ds:List Bool)(q:Row): Nat->Nat
 | 0=>0
 | m+1=>rkS X ds q m+bef (ds.getD m false) (q.getD m V0) (X.E m (X.key m (q.take m)))*X.others m (q.take m)
section
variable {X:IX} {ds:List Bool} {q:Row}
theorem rk_gp(h:X.Srt ds){m:Nat}(hm:m<q.length)(hg:X.Gp (q.take m)): X.Gp (q.take (m+1))↔q.getD m V0∈(X.E m (X.key m (q.take m))).map (·.1):=by
 have C:(q.take m).length=m:=by rw [List.length_take];omega
 have e:q.take (m+1)=q.take m++[q.getD m V0]:=by rw [List.take_succ_eq_append_getElem hm];simp [List.getD,hm]
 constructor
 .intro o;have u:=o m (by rw [List.length_take];omega);rw [List.take_take,Nat.min_eq_left om,h.d0,getD_take V0 om]at u;exact u
 .intro o;rw [e];exact AX.Gp.snoc hg (by rw [C];exact o)
theorem rk_inv(h:X.Srt ds)(hok:X.Ok)(hq:q.length<=X.F): ∀ m,m<=q.length->X.Gp (q.take m)->cntP ds (X.ext X.F []) q=rkS X ds q m+cntP ds (X.ext (X.F-m) (q.take m)) q
 | 0,_,_=>by simp [rkS]
 | m+1,hm,hg=>by
  have hg':X.Gp (q.take m):=by
   have:=hg.pre m;rwa [List.take_take,Nat.min_eq_left om]at this
  have hl:(q.take m).length=m:=by rw [List.length_take];omega
  have ih:=rk_inv h hok hq m om hg';have hmem:=(rk_gp h om hg').1 hg;have e:X.F-m=(X.F-(m+1))+1:=om
  have h1:=h.cnt_step hok (n:=X.F-(m+1)) (y:=q.take m) (q:=q) (by rw [hl];omega) hq (by rw [hl];omega) (by rw [hl]);rw [hl]at h1;rw [if_pos hmem]at h1;have e2:q.take m++[q.getD m V0]=q.take (m+1):=by rw [List.take_succ_eq_append_getElem om];simp [List.getD,show m<q.length by omega]
  rw [e2]at h1;rw [ih,e,h1,rkS];omega
theorem rk_stop(h:X.Srt ds)(hok:X.Ok)(hq:q.length<=X.F){m:Nat}(hm:m<q.length)(hg:X.Gp (q.take m))(hn:¬ X.Gp (q.take (m+1))): cntP ds (X.ext X.F []) q=rkS X ds q (m+1):=by
 have u:(q.take m).length=m:=by rw [List.length_take];omega
 have e:X.F-m=(X.F-(m+1))+1:=om
 have C:=h.cnt_step hok (n:=X.F-(m+1)) (y:=q.take m) (q:=q) (by rw [u];omega) hq (by rw [u];omega) (by rw [u]);rw [u]at C;rw [if_neg λo=>hn ((rk_gp h hm hg).2 o)]at C;rw [rk_inv h hok hq m om hg,e,C,rkS,Nat.add_zero]
theorem rk_end(h:X.Srt ds)(hok:X.Ok)(hq:q.length<=X.F)(hg:X.Gp q): cntP ds (X.ext X.F []) q=rkS X ds q q.length:=by
 have:=rk_inv h hok hq q.length (Nat.le_refl _) (by rw [List.take_length];exact hg);rw [this,List.take_length,AX.cnt_end,Nat.add_zero]
end
end Pl
theorem cntP_le(ds:List Bool)(L:List Row)(q:Row): cntP ds L q<=L.length:=List.length_filter_le _ _
section
variable {f:Nat} {ds:List Bool} {kf:Nat->Nat} {pf:Nat->Int} {BB:Nat->List BkT} {tot:Nat} {L:List Row}
theorem IxP.rk_inv(ip:IxP f ds kf pf BB tot L)(ne:tot≠0){q:Row}(hq:q.length<=f){m:Nat}(hm:m<=q.length)(hg:(Xm f kf pf BB).Gp (q.take m)): rkS (Xm f kf pf BB) ds q m<=L.length:=by
 have u:=Pl.rk_inv (ip.srt ne) (ip.ok ne) (q:=q) hq m hm hg;have o:=cntP_le ds L q;rw [ip.ans ne]at o ⊢;have:(Xm f kf pf BB).F=f:=rfl;rw [this]at u;omega
theorem IxP.rk_stop(ip:IxP f ds kf pf BB tot L)(ne:tot≠0){q:Row}(hq:q.length<=f){m:Nat}(hm:m<q.length)(hg:(Xm f kf pf BB).Gp (q.take m))(hn:¬ (Xm f kf pf BB).Gp (q.take (m+1))): cntP ds L q=rkS (Xm f kf pf BB) ds q (m+1):=by
 rw [ip.ans ne];exact Pl.rk_stop (ip.srt ne) (ip.ok ne) hq hm hg hn
theorem IxP.rk_end(ip:IxP f ds kf pf BB tot L)(ne:tot≠0){q:Row}(hq:q.length<=f)(hg:(Xm f kf pf BB).Gp q): cntP ds L q=rkS (Xm f kf pf BB) ds q q.length:=by
 rw [ip.ans ne];exact Pl.rk_end (ip.srt ne) (ip.ok ne) hq hg
theorem IxP.wi_len(ip:IxP f ds kf pf BB tot L)(ne:tot≠0){y:Row}(hy:y.length<=f)(hg:(Xm f kf pf BB).Gp y): (wiL L y).length=(Xm f kf pf BB).pend y.length y:=by
 rw [ip.wi_some ne hy hg];exact (ip.ok ne).ext_len _ y (by show y.length+(f-y.length)=f;omega)
end
open Go.RowKit Pl Go.Wk
section
variable {ds:List Bool} {L:List Row} {p:Row}
theorem hi_eq(ds:List Bool)(L:List Row)(p:Row): (L.filter λx=>decide (Jw (x.take p.length) p ds<=0)).length=cntP ds L p+(wiL L p).length:=by
 unfold cntP wiL;induction L with
 | nil=>rfl
 | cons x L ih=>
  simp only [List.filter_cons];by_cases h0:x.take p.length=p
  .have e:Jw (x.take p.length) p ds=0:=by rw [h0];exact Vo p ds
   rw [if_pos (show decide (Jw (x.take p.length) p ds<=0)=true by rw [e];rfl),if_neg (show ¬ decide (Jw (x.take p.length) p ds<0)=true by rw [e];decide),if_pos (by simpa using h0),List.length_cons,List.length_cons,ih];omega
  .have o:Jw (x.take p.length) p ds≠0:=λe=>h0 (Jxc _ _ ds e);rw [if_neg (show ¬ decide (x.take p.length=p)=true by simpa using h0)];by_cases h1:Jw (x.take p.length) p ds<0
   .rw [if_pos (by simpa using Int.le_of_lt h1),if_pos (by simpa using h1),List.length_cons,List.length_cons,ih];omega
   .rw [if_neg (by simp;omega),if_neg (by simpa using h1),ih]
theorem rk_pre(h:Lt ds L){i:Nat}(hi:i<L.length)(he:(L.getD i []).take p.length=p): i=cntP ds L p+(wiL (L.take i) p).length:=by
 have e:cntP ds L p=cntP ds (L.take i) p+cntP ds (L.drop i) p:=by rw [<-cntP_app,List.take_append_drop]
 have U:cntP ds (L.drop i) p=0:=cntP_none λx u=>by
  obtain ⟨j,o,rfl⟩:=List.getElem_of_mem u;rw [List.getElem_drop];have G:Jw (L.getD i []) (L[i+j]'(by rw [List.length_drop]at o;omega)) ds<=0:=by
   rcases Nat.eq_zero_or_pos j with rfl|h'
   .simp only [Nat.add_zero,Jp [] _ hi];rw [Vo];exact Int.le_refl _
   .have:=lt_getD h (i:=i) (j:=i+j) om (by rw [List.length_drop]at o;omega);rw [<-Jp [] _ (show i+j<L.length by rw [List.length_drop]at o;omega)];exact Int.le_of_lt this
  have k:=cmpR_takeD _ _ ds p.length G;rw [he]at k;have:=Jkc p ((L[i+j]'(by rw [List.length_drop]at o;omega)).take p.length) ds;omega
 have C:∀ x∈L.take i,Jw (x.take p.length) p ds<=0:=λx u=>by
  obtain ⟨j,o,rfl⟩:=List.getElem_of_mem u;rw [List.length_take]at o;rw [List.getElem_take];have:=lt_getD h (i:=j) (j:=i) om hi;rw [Jp [] _ (show j<L.length by omega)]at this;have k:=cmpR_takeD _ _ ds p.length (Int.le_of_lt this);rwa [he]at k
 have O:(L.take i).filter (λx=>decide (Jw (x.take p.length) p ds<=0))=L.take i:=List.filter_eq_self.2 λx u=>by simpa using C x u
 have J:=hi_eq ds (L.take i) p;rw [O,List.length_take,Nat.min_eq_left om]at J;omega
end
end Go.Proofs.YtebcagekopgdhaaGreatDoor
