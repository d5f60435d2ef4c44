/- Part 3 of the proof: Wa4, Wa9, WaA. -/
import Derived.Test.YtefpailelagbkaaGreatDoorKwc47
set_option linter.unusedVariables false
set_option maxRecDepth 100000
set_option maxHeartbeats 40000000
namespace Go.Proofs.YtefpailelagbkaaGreatDoor
open Go.RowKit Pl Go.Wk
attribute [local irreducible] WC WL QX WD WDB WP WN WG WH WM
theorem natOff{w:World}{v:Value}{n b t:Nat}{cs:List Value}(h:NatV w v n)(hB:Blk w b t cs)(hs:∀ u∈cs,∀ z,u≠.int .u32 z): Off (λk=>k=b) w λu=>NatV u v n:=by
 obtain ⟨A,c,rfl,j,o,J⟩:=h;refine (Xwx J λh0 G e (O:G.block=b)=>?_).imp λu U=>⟨A,c,rfl,j,o,U⟩;obtain ⟨a1,C,Z,i⟩:=J.2 h0;rw [e]at C;injection C with C
 subst C;rw [Xbw]at h0;have j:=i 0 _ (Jzm h0);rw [add_zero]at j;have o:=World.cell?_spot j;have h5:G=⟨b,G.off,none⟩:=by
  obtain ⟨qb,qo,qs⟩:=G;simp only at o O;subst o;subst O;rfl
 rw [h5,hB.cell]at j;exact hs _ (List.mem_of_getElem? j) _ rfl
theorem CuV.off{w:World}{x cu:Value}{p st b t:Nat}{cs:List Value}(h:CuV w x cu p st)(hB:Blk w b t cs)(hs:∀ u∈cs,∀ z,u≠.int .u32 z): Off (λk=>k=b) w λu=>CuV u x cu p st:=by
 obtain ⟨A1,A2,A3,A4,A5,G,C,o,j,i,c1,c2,c3,c4,c5,pv,Z,U,O⟩:=h;exact (natOff O hB hs).imp λu J=>⟨A1,A2,A3,A4,A5,G,C,o,j,i,c1,c2,c3,c4,c5,pv,Z,U,J⟩
theorem no_u32{A B C D E F:Option Addr}{a b c d e f a' b' c' d' e' f':Nat}{z:Int}: ∀ u∈[Value.slice A a a',.slice B b b',.slice C c c',.slice D d d',.slice E e e',.slice F f f',.int .i64 z],∀ s,u≠.int .u32 s:=λu i s=>by
 simp only [List.mem_cons,List.not_mem_nil,or_false]at i;rcases i with rfl|rfl|rfl|rfl|rfl|rfl|rfl<;>simp
theorem CuV.parts{w:World}{A B C D E:Option Addr}{a b c d e a' b' c' d' e':Nat}{cu:Value}{p st:Nat}(h:CuV w (.agg #[.slice A a a',.slice B b b',.slice C c c',.slice D d d',.slice E e e']) cu p st):
  ∃ Q q,cu=.agg #[.slice A a a',.slice B b b',.slice C c c',.slice D d d',.slice E e e',.slice Q (Jjf p).length q,.int .i64 (st:Int)]:=by
 obtain ⟨A1,A2,A3,A4,A5,U,O,J,G,u,c1,c2,c3,c4,Z,pv,i,o,j⟩:=h;obtain ⟨Q,q,rfl,_⟩:=id j;simp only [Value.agg.injEq,Array.mk.injEq,List.cons.injEq,Value.slice.injEq,and_true]at i;obtain ⟨⟨rfl,rfl,rfl⟩,⟨rfl,rfl,rfl⟩,⟨rfl,rfl,rfl⟩,⟨rfl,rfl,rfl⟩,⟨rfl,rfl,rfl⟩⟩:=i;exact ⟨Q,q,o⟩
theorem limbs_s{p:Nat}(h:p<4294967296): (Jjf p).length<=1:=by
 rcases Nat.eq_zero_or_pos p with rfl|h0
 .rw [limbs_0];simp
 .rw [Qhz om h];simp
def exB: Cse:=Jzw [false,false] (nR 1 2) (nR 1 3) (nR 2 1)
theorem exB_good: Xbz exB:=goodE rfl ⟨rfl,rfl⟩ ⟨rfl,rfl⟩ ⟨rfl,rfl⟩
theorem exB_ans: exB.ans=[nR 1 2,nR 1 3,nR 2 1]:=by decide
theorem exB_fit: ∀ i,i<exB.rss.length->∀ r∈exB.rss.getD i [],∀ u∈r,Qyf u:=λi hi r o u j=>by
 have:i=0:=by simp [exB,Jzw]at hi;exact hi
 subst this;simp only [exB,Jzw,List.getD_cons_zero,List.mem_cons,List.not_mem_nil,or_false]at o;rcases o with rfl|rfl|rfl <;>
 .simp only [nR,List.mem_cons,List.not_mem_nil,or_false]at j;rcases j with rfl|rfl<;>exact Xvp (by decide)
theorem FewS.p{c:Cse}(h:FewS c): FewP c:=⟨h.row,h.cnt,.inl h.n6,h.v5,h.r5⟩
def SF.of(b n:Nat)(p:World->Value->Prop): SF:=⟨λv w=>∃ A c,v=.slice A n c/\Off (λk=>k=b) w λu=>p u v,λ⟨A,c,e,h1⟩ hx=>⟨A,c,e,h1.ext hx⟩⟩
theorem zCse: Jxd Tryz.prog 27=some (.agg #[.int .i64 0,.int .i64 0,.slice none 0 0,.slice none 0 0,.slice none 0 0,.slice none 0 0]):=kr
theorem IntssV.lit1{w:World}{b:Nat}{v:Value}{zs:List Int}(h:Blk w b 23 [v])(hv:IntsV w v zs): IntssV w (.slice (some ⟨b,0,none⟩) 1 1) [zs]:=⟨_,1,[v],rfl,Nat.le_refl _,by simp,h.rd rfl,λi hi=>by
 have:i=0:=by simp at hi;exact hi
 subst this;exact ⟨v,rfl,hv⟩⟩
theorem RowssV.lit1{w:World}{b:Nat}{v:Value}{rs:List Row}(h:Blk w b 35 [v])(hv:RowsV w v rs): RowssV w (.slice (some ⟨b,0,none⟩) 1 1) [rs]:=⟨_,1,[v],rfl,Nat.le_refl _,by simp,h.rd rfl,λi hi=>by
 have:i=0:=by simp at hi;exact hi
 subst this;exact ⟨v,rfl,hv⟩⟩
def exF(b:Nat): List SF:=[
 SF.of b 2 (λw v=>BoolsV w v [false,false]),SF.of b 2 (λw v=>IntsV w v [0,1]),SF.of b 1 (λw v=>IntssV w v [[0,1]]),
 SF.eq (nV 1).val,SF.eq (nV 2).val,SF.of b 2 (λw v=>RowV w v (nR 1 2)),SF.eq (nV 1).val,SF.eq (nV 3).val,SF.of b 2 (λw v=>RowV w v (nR 1 3)),SF.eq (nV 2).val,SF.eq (nV 1).val,SF.of b 2 (λw v=>RowV w v (nR 2 1)),
 SF.of b 3 (λw v=>RowsV w v [nR 1 2,nR 1 3,nR 2 1]),SF.of b 1 (λw v=>RowssV w v [[nR 1 2,nR 1 3,nR 2 1]])]
theorem example44_any(w:World): Ret Tryz.prog 89 [] w λu w'=>∃ cs,u=.agg cs.toArray/\CseV w' cs exB/\Ext w w':=by
 refine Jjc Tryz.func89 Tryz.ntmps89 rfl kr rfl ?_;refine ρ ?_;refine alc zCse ?_;intro w1 b1 a9 ab a7;refine ρ ?_;have U:∀ C,Ext w1.drew C->b1<C.heap.size:=λC hx=>((a7.ext (Ext.refl w1).drew).ext hx).lt;refine drH (λi=>Nat.beq i 15) ?_;refine hmk 14 16 2 [1,2,3,4,5,6,7,8,9,10,11,12,13,14] (exF b1) kr (by rfl) ?_ ?_
 .refine gmc (λvs C o G=>?_) ?_
  .refine mkn EB 2 (by decide) (by decide) ?_;intro J A j ho hf;have e:(madeCells (Value.bool false).cells (2*1)).toList=[Value.bool false,.bool false]:=by rw [Nat.mul_one];exact Jlx _ _
   rw [e]at ho;exact Jzd (mdone j ⟨A,2,rfl,(Xwx (Rd.own ho) λ_ ad e=>by have:=hf ad e;have:=U C o;show ¬ ad.block=b1;omega).imp λu hu=>⟨A,2,rfl,Nat.le_refl _,by decide,hu⟩⟩)
  refine gmc (λvs C o G=>?_) ?_
  .refine bsl (bs2I _ _) ?_;intro J b j hb Z;exact Jzd (mdone j ⟨_,_,rfl,λW O=>⟨some ⟨b,0,none⟩,2,rfl,Nat.le_refl _,by decide,(Jqb Z O (by have:=U C o;omega)).rd rfl⟩⟩)
  refine gmc (λvs C o G=>?_) ?_
  .obtain ⟨A,c,e,h⟩:=G 1;simp only [slM,e]at h ⊢;refine bsl (bs1II _ _ _) ?_;intro J b j hb Z;exact Jzd (mdone j ⟨_,_,rfl,λW O=>IntssV.lit1 (Jqb Z O (by have:=U C o;omega)) (Off.ext h j W O)⟩)
  refine gmc (λvs C o G=>?_) ?_
  .refine cl (num44_any 1 _) ?_;rintro _ J ⟨rfl,j⟩;exact Jzd (mdone j rfl)
  refine gmc (λvs C o G=>?_) ?_
  .refine cl (num44_any 2 _) ?_;rintro _ J ⟨rfl,j⟩;exact Jzd (mdone j rfl)
  refine gmc (λvs C o G=>?_) ?_
  .have e3:vs 3=(nV 1).val:=G 3;have e4:vs 4=(nV 2).val:=G 4;simp only [slM,e3,e4];refine bsl (bs2V _ _) ?_;intro J b j hb Z;exact Jzd (mdone j ⟨_,_,rfl,λW O=>litRow (r:=nR 1 2) (Jqb Z O (by have:=U C o;omega)) (by decide)⟩)
  refine gmc (λvs C o G=>?_) ?_
  .refine cl (num44_any 1 _) ?_;rintro _ J ⟨rfl,j⟩;exact Jzd (mdone j rfl)
  refine gmc (λvs C o G=>?_) ?_
  .refine cl (num44_any 3 _) ?_;rintro _ J ⟨rfl,j⟩;exact Jzd (mdone j rfl)
  refine gmc (λvs C o G=>?_) ?_
  .have e3:vs 6=(nV 1).val:=G 6;have e4:vs 7=(nV 3).val:=G 7;simp only [slM,e3,e4];refine bsl (bs2V _ _) ?_;intro J b j hb Z;exact Jzd (mdone j ⟨_,_,rfl,λW O=>litRow (r:=nR 1 3) (Jqb Z O (by have:=U C o;omega)) (by decide)⟩)
  refine gmc (λvs C o G=>?_) ?_
  .refine cl (num44_any 2 _) ?_;rintro _ J ⟨rfl,j⟩;exact Jzd (mdone j rfl)
  refine gmc (λvs C o G=>?_) ?_
  .refine cl (num44_any 1 _) ?_;rintro _ J ⟨rfl,j⟩;exact Jzd (mdone j rfl)
  refine gmc (λvs C o G=>?_) ?_
  .have e3:vs 9=(nV 2).val:=G 9;have e4:vs 10=(nV 1).val:=G 10;simp only [slM,e3,e4];refine bsl (bs2V _ _) ?_;intro J b j hb Z;exact Jzd (mdone j ⟨_,_,rfl,λW O=>litRow (r:=nR 2 1) (Jqb Z O (by have:=U C o;omega)) (by decide)⟩)
  refine gmc (λvs C o G=>?_) ?_
  .obtain ⟨A,c,e,h⟩:=G 5;obtain ⟨A',c',e',h'⟩:=G 8;obtain ⟨a5,a4,a3,a1⟩:=G 11;simp only [slM,e,e',a3]at h h' a1 ⊢;refine bsl (bs3R _ _ _ _ _ _ _ _ _) ?_;intro J b j hb Z;refine Jzd (mdone j ⟨_,_,rfl,λW O=>?_⟩);refine litRows [(.slice A 2 c,nR 1 2),(.slice A' 2 c',nR 1 3),(.slice a5 2 a4,nR 2 1)] (Jqb Z O (by have:=U C o;omega)) (λp hp=>?_) (by simp);simp only [List.mem_cons,List.not_mem_nil,or_false]at hp;rcases hp with rfl|rfl|rfl
   .exact Off.ext h j W O
   .exact Off.ext h' j W O
   .exact Off.ext a1 j W O
  refine gmc (λvs C o G=>?_) gme
  .obtain ⟨A,c,e,h⟩:=G 12;simp only [slM,e]at h ⊢;refine bsl (bs1RR _ _ _) ?_;intro J b j hb Z;exact Jzd (mdone j ⟨_,_,rfl,λW O=>RowssV.lit1 (Jqb Z O (by have:=U C o;omega)) (Off.ext h j W O)⟩)
 .intro vs C o hf;obtain ⟨A,c,e,h⟩:=hf 0;obtain ⟨A',c',e',h'⟩:=hf 2;obtain ⟨a5,a4,a3,a1⟩:=hf 13;simp only [slM,e,e',a3]at h h' a1 ⊢;refine Jst 16 [(0,14),(2,15)] (fuel':=0) (lst 16 16) kr kr rfl ?_;refine dbld (bldCase _ _ _ _ _ _ _ _ _) ?_;have a6:Ext w1 C:=(Ext.refl w1).drew.trans o;refine Jqz ?_;refine stW ((a7.ext (Ext.refl w1).drew).ext o) ?_;intro J ac aa j;refine Jzd (Jxt ?_);refine Qmd (Jzt ?_);refine hend kr ?_;have a8:Ext w J:=j w (a9.trans a6) ab;have a2:GrN (λk=>k=b1) C J:=GrN.by aa λk Z=>by injection Z with Z;exact Z.symm
  refine ρ ?_;exact Qdc ac ⟨_,rfl,⟨A,c,none,0,A',c',a5,a4,rfl,h J a2,⟨none,0,rfl,Nat.le_refl _,Nat.zero_le _,Rd.nil⟩,h' J a2,a1 J a2,by simp [exB,Jzw],by simp [exB,Jzw]⟩,a8⟩
theorem no_str5{A B C D E:Option Addr}{a b c d e a' b' c' d' e':Nat}: ∀ u∈[Value.slice A a a',.slice B b b',.slice C c c',.slice D d d',.slice E e e'],∀ s,u≠.string s:=λu i s=>by
 simp only [List.mem_cons,List.not_mem_nil,or_false]at i;rcases i with rfl|rfl|rfl|rfl|rfl<;>simp
theorem RowsV.off{w:World}{v:Value}{L:List Row}{b t:Nat}{cs:List Value}(h:RowsV w v L)(hf:∀ ad m c,v=.slice (some ad) m c->ad.block≠b)(hB:Blk w b t cs)(hs:∀ u∈cs,∀ s,u≠.string s): Off (λk=>k=b) w λu=>RowsV u v L:=by
 obtain ⟨ps,A,c,rfl,rfl,J,G,C,o⟩:=h;exact λW i=>⟨ps,A,c,rfl,rfl,J,G,Qxm C i (λ_ ad e=>hf ad _ _ (by rw [e])),λp j=>by
  obtain ⟨A',c',e1,Z,U,O⟩:=o p j;exact ⟨A',c',e1,Z,U,(rowOff O hB hs) W i⟩⟩
theorem made44_any{B0:Nat}{w:World}{cs:List Value}{c:Cse}(hTB:TB B0 w)(h:CseV w cs c)(hfit:∀ i,i<c.rss.length->∀ r∈c.rss.getD i [],∀ u∈r,Qyf u):
  Ret Tryz.prog 45 [.agg cs.toArray] w λu w'=>Ext w w'/\((u=.tuple #[.agg #[.slice none 0 0,.slice none 0 0,.slice none 0 0,.slice none 0 0,.slice none 0 0],.slice none 0 0,.bool false,.bool true]/\¬ Xbz c) ∨
   ∃ (ats:List Atm) (x av:Value) (kf:Nat->Nat) (pf:Nat->Int) (BB:Nat->List BkT) (tot:Nat),CseOk c ats/\u=.tuple #[x,av,.bool true,.bool true]/\IxA w' x c.F c.ds kf pf BB tot c.ans/\RowsV w' av c.ans):=by
 obtain ⟨dA,dc,pA,pc,vA,vc,rA,rc,rfl,hD,hP,hV,hR,hn,hf⟩:=id h;refine Jjc Tryz.func45 Tryz.ntmps45 rfl kr rfl ?_;refine ρ ?_;refine bx ?_;intro w1 b a8 hb hB;refine ρ ?_;refine alc Qfg ?_;intro w2 b2 aq b8 c9;have bf:=hB.ext aq;refine ρ ?_;refine ldW bf ?_;refine ρ ?_;refine cl (Xwg (h.ext (a8.trans aq))) ?_;rintro u w3 ⟨ap,cn,ce,aA,cm,cd,ac,an,ok,rfl,c1,c0,bq,b1⟩;refine ρ ?_;refine alc zInp ?_;intro w4 b4 bm bu c8;refine ρ ?_;refine stW c8 ?_;intro w5 c7 ck bl;have U:Ext w3 w5:=bl w3 bm bu;have bc:=(c9.ext ap).ext U;have aj:=(bf.ext ap).ext U;have ae:=((a8.trans aq).trans ap).trans U;refine ρ ?_;refine ldW aj ?_;refine ρ ?_;refine cl (few_any (h.ext ae)) ?_;rintro u w6 ⟨a4,fw,rfl,b6,br⟩;have O:=U.trans a4;have Z:=ae.trans a4;have a6:=bc.ext a4;refine ρ ?_;refine Jzn (fun (t:Bool)=>[(22,.bool t),(1,.pointer (some ⟨b,0,none⟩)),(2,.pointer (some ⟨b2,0,none⟩)),(3,.slice none 0 0),(4,.bool false),(5,.bool false),(6,.pointer (some ⟨b4,0,none⟩)),(7,.bool ok)]) (λt w7=>w7=w6/\t = !(fw && ok)) ?_ ?_
 .cases fw with
  | false=>
   refine ρ ?_;exact Jjn true sB ⟨rfl,rfl⟩
  | true=>
   refine ρ ?_;exact Jjn (!ok) sB ⟨rfl,by simp⟩
 rintro t w7 ⟨rfl,ht⟩;refine ρ ?_;refine ci (λh=>?_) (λh=>?_)
 .subst h;refine ρ ?_;refine bld (Xbg _) ?_;refine ρ ?_;refine stW a6 ?_;intro w8 c6 cj a3;have bi:Ext w w8:=a3 w Z (nL a8.size b8);refine ρ ?_;refine finC4 c6 ⟨bi,.inl ⟨rfl,λhG=>?_⟩⟩;have h1:=br hG.1;have h2:=b1 hG.2.1 hG.2.2;rw [h1,h2]at ht;cases ht
 .subst h;obtain ⟨cb,ca⟩:fw=true/\ok=true:=by
   cases fw<;>cases ok<;>simp at ht ⊢
  subst cb;subst ca;obtain ⟨b3,ats,bw,hG,hmk,b7⟩:=bq rfl;have J:CseOk c ats:=⟨b6 rfl,b3,bw,hmk,b7 trivial,hfit⟩;have bb:=c7.ext a4;refine ρ ?_;refine ldW bb ?_;obtain ⟨ts,a9,c4⟩:=bldV_of J (c1.ext O) (c0.ext O) (hG.ext O λcs a ⟨t,e,h⟩=>⟨t,e,h.ext O⟩);have bo:ts.length=c.m:=by have:=J.al;rw [a9,List.length_map]at this;exact this
  refine ρ ?_;refine cl (Xxw (hTB.ext Z) (J.bldI a9) c4) ?_;rintro u w8 ⟨a3,x,st,kf,pf,R,rfl,hE,ag⟩;obtain ⟨XA,xd,YA,yd,ZA,zd,UA,ud,tv,cg,cc,rfl,_,_,_,_,_,_,bn,_⟩:=id ag.here.ex;obtain ⟨TA,tc,rfl,_⟩:=id bn;have ah:=a6.ext a3;refine ρ ?_;refine alc Qfg ?_;intro wa b9 bj bt c3;refine ρ ?_;refine stW c3 ?_;intro w9 c5 ch ax;have a7:Ext w8 w9:=ax w8 bj bt;have ab:Ext w w9:=(Z.trans a3).trans a7;have bs:=a6.lt;have aw:¬ b=b2:=λe=>by have:=hB.lt;omega
  have bh:¬ b9=b2:=λe=>by have:=ah.lt;omega
  have bd:=((aj.ext a4).ext a3).ext a7;have a5:=ah.ext a7;have ar:=ag.ext a7;have a2:Ext w9 w9.drew:=(Ext.refl w9).drew;have ao:=ab.trans a2;have c2:=c5.ext a2;have ai:=bd.ext a2;have bz:=CseV.rin (hV.ext ao) (hR.ext ao) J;have bp:c.rss.length=c.m:=by rw [<-J.len];rfl
  refine ρ ?_;refine drN (λk=>k=b2) 13 [(0,0),(0,1),(0,3),(0,4),(0,6),(0,7),(1,2),(1,5),(1,8),(0,9),(0,10),(0,11)] kr ?_;refine ρn ?_;refine Jgr (cs:=[.slice XA c.F xd,.slice YA c.F yd,.slice ZA c.F zd,.slice UA c.F ud,.slice TA _ tc]) (λw' hg j u hu=>(Jqb c2 hg bh).at hu) ?_;refine ρn ?_;refine Jgr (cs:=[.int .i64 c.n,.int .i64 c.f,.slice dA c.ds.length dc,.slice pA c.pm.length pc,.slice vA c.vs.length vc,.slice rA c.rss.length rc]) (λw' hg j u hu=>(Jqb ai hg aw).at hu) ?_;refine ρn ?_;refine nld (Jjg (ai.at (i:=2) rfl) aw) ?_;refine ρn ?_;refine nop ?_;refine cl ref_any ?_;rintro u am ⟨rfl,C⟩;refine ρ ?_;refine Jqv (GrN.ext C) ?_;refine ρn ?_;refine nop ?_;have hA:Ret Tryz.prog 55 [.agg #[.int .i64 c.n,.int .i64 c.f,.slice pA c.pm.length pc,.slice vA c.vs.length vc,.slice rA c.rss.length rc],.slice dA c.ds.length dc] am λu w'=>RowsV w' u c.ans/\Ext am w'/\Fresh am u:=by
   rw [J.nN.1,J.fF.1,bp];exact Qpj (pA:=pA) (pn:=c.pm.length) (pc:=pc) (vc:=vc) (rc:=rc) J.refP (bz.ext C) (by have:=J.nN.2;omega) J.fF.2 (hD.ext (ao.trans C))
  refine cl hA ?_;rintro av bg ⟨bv,af,ba⟩;refine ρ ?_;refine Jqv (GrN.ext af) ?_;refine ρn ?_;refine nop ?_;have o:=(a2.trans C).trans af;refine stW (a5.ext o) ?_;intro ak be b5 ay;have G:GrN (λk=>k=b2) bg ak:=GrN.by b5 λk hk=>by injection hk with hk;exact hk.symm
  have a1:Ext w ak:=ay w (ab.trans o) (nL a8.size b8);have au:=(RowsV.off bv (λad m c e e2=>by have h1:=ba ad m c e;have h2:=(a2.trans C).size;have h3:=a5.lt;omega) (a5.ext o) no_str5) ak G;refine Jzd (Jqv G ?_);refine ρn ?_;refine ρ ?_;have aa:=(ar.ext o).gr (G.mono λk _ hk=>by rw [hk];exact bs);exact finC4 be ⟨a1,.inr ⟨ats,_,av,kf,pf,_,_,J,rfl,ixA_of ⟨B0,hTB.ext a1⟩ (J.bldI a9) (rsA_ts a9) hE aa.here J.ans.1 (λy=>by rw [bo];exact J.ans.2 y) (by have:=J.anl;omega),au⟩⟩
set_option linter.constructorNameAsVariable false in
theorem awake44_any{B0:Nat}{w:World}(hTB:TB B0 w): Ret Tryz.prog 44 [] w λu w'=>u=.bool true/\Ext w w':=by
 refine Jjc Tryz.func44 Tryz.ntmps44 rfl kr rfl ?_;refine ρ ?_;refine cl (example44_any _) ?_;rintro _ w1 ⟨cs,rfl,hC,cd⟩;refine ρ ?_;refine cl (Xwg hC) ?_;rintro u w2 ⟨cc,dA,pA,aA,dc,pc,ac,an,ok,rfl,hD,hP,cn,bj⟩;obtain rfl:ok=true:=bj exB_good.2.1 exB_good.2.2;obtain ⟨bn,ats,cy,hG,hmk,bv⟩:=cn rfl;have o:CseOk exB ats:=⟨exB_good.1.p,bn,cy,hmk,bv trivial,exB_fit⟩;refine ρ ?_;refine alc zInp ?_;intro w3 b3 cb cx d1;refine ρ ?_;refine stW d1 ?_;intro w4 d0 dq ca;have i:Ext w2 w4:=ca w2 cb cx;have a7:=(cd.trans cc).trans i;refine ρ ?_;refine ldW d0 ?_;obtain ⟨ts,a5,cz⟩:=bldV_of o (hD.ext i) (hP.ext i) (hG.ext i λcs a ⟨t,e,h⟩=>⟨t,e,h.ext i⟩);have cg:ts.length=exB.m:=by have:=o.al;rw [a5,List.length_map]at this;exact this
 refine ρ ?_;refine cl (Xxw (hTB.ext a7) (o.bldI a5) cz) ?_;rintro u w5 ⟨c9,x,st,kf,pf,R,rfl,hE,af⟩;have a6:=a7.trans c9;have a3:=ixA_of ⟨B0,hTB.ext a6⟩ (o.bldI a5) (rsA_ts a5) hE af.here o.ans.1 (λy=>by rw [cg];exact o.ans.2 y) (by have:=o.anl;omega);obtain ⟨BB,bw⟩:∃ BB,BB=BBx (Jtz exB.N pf (TV exB.N exB.F kf pf R exB.ds (plO (toN exB.pm) exB.F)) (ts.map (·.2))) exB.N exB.F kf pf R exB.ds (plO (toN exB.pm) exB.F):=⟨_,rfl⟩
 obtain ⟨tot,ae⟩:∃ tot,tot=Jtz exB.N pf (TV exB.N exB.F kf pf R exB.ds (plO (toN exB.pm) exB.F)) (ts.map (·.2)):=⟨_,rfl⟩
 rw [<-bw,<-ae,exB_ans]at a3;clear bw ae af hE;obtain ⟨XA,xd,YA,yd,ZA,zd,UA,ud,tv,dm,dl,rfl,_,_,_,_,_,_,ce,_⟩:=id a3.ix.ex;obtain ⟨TA,tc,rfl,_⟩:=id ce;refine ρ ?_;refine alc Qfg ?_;intro w6 b6 c8 cw cr;refine ρ ?_;refine stW cr ?_;intro w7 cq dn c7;have ab:Ext w5 w7:=c7 w5 c8 cw;have b1:=a6.trans ab;have ao:=a3.ext ab;refine ρ ?_;refine ldW cq ?_;refine ρ ?_;refine cl start_any ?_;rintro cu w8 ⟨cv,b2⟩;refine ρ ?_;refine cl (next_any (ao.ext b2) cv (by rw [limbs_0];decide)) ?_;rintro u w9 ⟨c6,dz,A1,c1,dk,rfl,ak,ck,cp,dv,_⟩;have aa:=b2.trans c6;have ay:=b1.trans aa;have am:=ao.ext aa;refine ρ ?_;refine alc zCur ?_;intro dh bz bi a2 bs;obtain ⟨Q1,q1,rfl⟩:=ak.parts;refine ρ ?_;refine stW bs ?_;intro c5 ah d2 bh;have J:Ext w9 c5:=bh w9 bi a2;refine ρ ?_;refine ldW ah ?_;refine ρ ?_;refine cl (next_any (am.ext J) (ak.ext J) (nL (limbs_s (by decide)) (by decide))) ?_;rintro u c4 ⟨ad,dx,A2,c2,dj,rfl,aj,cj,bo,du,_⟩
 obtain ⟨Q2,q2,rfl⟩:=aj.parts;have Z:=ah.ext ad;refine ρ ?_;refine stW Z ?_;intro a4 ag bu bg;have a1:GrN (λk=>k=bz) c4 a4:=GrN.by bu λk hk=>by injection hk with hk;exact hk.symm
 have a9:Ext w9 a4:=bg w9 (J.trans ad) a2;have av:=(aj.off Z no_u32) a4 a1;have bm:=(rowOff cj Z no_str) a4 a1;refine ρ ?_;refine ldW ag ?_;refine ρ ?_;refine cl (prev_any (am.ext a9) av (nL (limbs_s (by decide)) (by decide))) ?_;rintro u c0 ⟨O,dw,A3,c3,di,rfl,ai,ch,co,dt,_⟩;obtain ⟨Q3,q3,rfl⟩:=ai.parts;have C:=ag.ext O;refine ρ ?_;refine stW C ?_;intro G br bt bf;have j:GrN (λk=>k=bz) c0 G:=GrN.by bt λk hk=>by injection hk with hk;exact hk.symm
 have a8:Ext w9 G:=bf w9 (a9.trans O) a2;have au:=(ai.off C no_u32) G j;have bl:=(rowOff ch C no_str) G j;have U:=(rowOff (Rd.ext bm O) C no_str) G j;have ar:RdR G A1 (nR 1 2):=Rd.ext ck a8;refine ρ ?_;refine cl (num44_any 1 _) ?_;rintro _ dg ⟨rfl,be⟩;refine ρ ?_;refine cl (num44_any 2 _) ?_;rintro _ df ⟨rfl,bd⟩;refine ρ ?_;refine bsl (bs2V _ _) ?_;intro de e1 bc d4 bq;have ax:=(be.trans bd).trans bc;refine ρ ?_;refine cl (Jpf (a:=nR 1 2) ⟨A1,c1,rfl,cp,by decide,Rd.ext ar ax⟩ (litRow (r:=nR 1 2) bq (by decide))) ?_;rintro _ dd ⟨rfl,bb⟩;rw [decide_eq_true rfl];refine ρ ?_;refine cl (num44_any 1 _) ?_;rintro _ db ⟨rfl,ba⟩;refine ρ ?_;refine cl (num44_any 3 _) ?_;rintro _ da ⟨rfl,b9⟩;refine ρ ?_;refine bsl (bs2V _ _) ?_;intro d9 e0 b8 d3 bp;have aw:=((ax.trans bb).trans (ba.trans b9)).trans b8;refine ρ ?_;refine cl (Jpf (a:=nR 1 3) ⟨A2,c2,rfl,bo,by decide,Rd.ext U aw⟩ (litRow (r:=nR 1 3) bp (by decide))) ?_
 rintro _ d8 ⟨rfl,b7⟩;rw [decide_eq_true rfl];have aq:=aw.trans b7;refine ρ ?_;refine cl (Jpf (a:=nR 1 3) (b:=nR 1 3) ⟨A3,c3,rfl,co,by decide,Rd.ext bl aq⟩ ⟨A2,c2,rfl,bo,by decide,Rd.ext U aq⟩) ?_;rintro _ d7 ⟨rfl,i⟩;rw [decide_eq_true rfl];have ap:=aq.trans i;refine ρ ?_;refine ldW (br.ext ap) ?_;refine ρ ?_;refine cl (pos_any (au.ext ap) (nL (limbs_s (by decide)) (by decide))) ?_;rintro pv d6 ⟨cm,b5⟩;refine ρ ?_;refine cl (is44_any (n:=1) cm (by decide)) ?_;rintro _ d5 ⟨rfl,b4⟩;refine ρ ?_;exact Jjq ⟨rfl,(ay.trans a8).trans ((ap.trans b5).trans b4)⟩
end Go.Proofs.YtefpailelagbkaaGreatDoor
namespace Go.Wk
open Go.RowKit
theorem fnl0{P:Program}{n:Nat}{al:AL}{w:World}{Q:Exit->Act->World->Prop}{ops:Array Oper}{rest:List Oper}{d ty:Nat}{pos:String}{aft:Array Edge}{x:Operand}{t t2:Nat}{ps rs:Array TypeId}{va:Bool}{f:Fn}{first cap:Array Value}(hu:P.underlying t=some (.func ps rs va))(kk:WL P n ops Q rest ((d,.bool false)::al) w)(hx:ev al x=some (.func f first cap):=by rfl)(hd:Nat.blt d n=true:=by rfl):
  WL P n ops Q (⟨some d,.binOp .eql t x (.const .nilFunc) t2,ty,pos,aft,none⟩::rest) al w :=
 wop hd (λa i=>by
  have o:a.eval (.const .nilFunc)=.nilFunc:=rfl;have j:∀ d:Nat,(Op.equalIn (d+1) t (.func f first cap) .nilFunc).run P w=.ok false w:=λd=>by simp [Op.equalIn,run_underlying hu]
  simp [execOp,i.ev hx,o,eqGuard,binOp,Op.equal,Op.maxDepth,j 9999]) kk
end Go.Wk
namespace Go.Proofs.YtefpailelagbkaaGreatDoor
open Go.RowKit Pl Go.Wk
attribute [local irreducible] WC WL QX WD WDB WP WN WG WH WM
section
variable {w:World} {x:Value} {f:Nat} {ds:List Bool} {kf:Nat->Nat} {pf:Nat->Int} {BB:Nat->List BkT} {tot:Nat} {L:List Row}
theorem all_any{A1 A2 A3 A4 A5:Option Addr}{n1 n2 n3 n4 n5 c1 c2 c3 c4 c5 k:Nat}{kv:Value}(hk:NatV w kv k)(hl:(Jjf k).length<=1000):
  Ret Tryz.prog 51 [.agg #[.slice A1 n1 c1,.slice A2 n2 c2,.slice A3 n3 c3,.slice A4 n4 c4,.slice A5 n5 c5],kv] w λu w'=>Ext w w'/\∃ b1 b2 A c,u=.func (.func 91) #[] #[.pointer (some ⟨b1,0,none⟩),.pointer (some ⟨b2,0,none⟩)] /\
   Blk w' b1 34 [.slice A1 n1 c1,.slice A2 n2 c2,.slice A3 n3 c3,.slice A4 n4 c4,.slice A5 n5 c5]/\Blk w' b2 32 [.slice A (Jjf k).length c]/\NatV w' (.slice A (Jjf k).length c) k:=by
 obtain ⟨QA,qc,rfl,_⟩:=id hk;refine Jjc Tryz.func51 Tryz.ntmps51 rfl kr rfl ?_;refine ρ ?_;refine bx ?_;intro w1 b1 o a3 Z;refine ρ ?_;refine cl (Jyp (hk.ext o) hl) ?_;rintro u w2 ⟨hu,a2,j⟩;obtain ⟨UA,uc,rfl,_⟩:=id hu;refine ρ ?_;refine alc zNat ?_;intro w3 b2 G J U;refine ρ ?_;refine Xqk U ?_ rfl;intro w4 O a1 C;have i:Ext w2 w4:=C w2 G J;refine ρ ?_;exact Jjq ⟨(o.trans j).trans i,b1,b2,UA,uc,rfl,(Z.ext j).ext i,O,hu.ext i⟩
theorem CuV.fr{W W':World}{S:Nat->Prop}{cu:Value}{p st B:Nat}(h:CuV W x cu p st)(hf:∀ a1 a2 a3 a4 a5 pv z,cu=.agg #[a1,a2,a3,a4,a5,pv,z]->∀ ad m c,pv=.slice (some ad) m c->B<=ad.block)(hS:∀ b,S b->b<B)(hg:GrN S W W'): CuV W' x cu p st:=by
 obtain ⟨A1,A2,A3,A4,A5,J,G,C,u,o,c1,c2,c3,c4,c5,pv,h1,j,A,c,i,h4,Z,U⟩:=h;exact ⟨A1,A2,A3,A4,A5,J,G,C,u,o,c1,c2,c3,c4,c5,pv,h1,j,A,c,i,h4,Z,Qxm U hg λ_ ad e O=>by
  have:=hf _ _ _ _ _ _ _ j ad _ _ (by rw [i,e]);have:=hS _ O;omega⟩
set_option maxRecDepth 100000 in
set_option maxHeartbeats 4000000 in
theorem allIter_any{A1 A2 A3 A4 A5 : Option Addr}{n1 n2 n3 n4 n5 c1 c2 c3 c4 c5 k b1 b2 l : Nat}{A : Option Addr}{c : Nat}{S0 : Nat → Prop}{J : Nat → (Nat → Prop) → World → Prop}{Jx : World → Prop}(hx : x = .agg #[.slice A1 n1 c1, .slice A2 n2 c2, .slice A3 n3 c3, .slice A4 n4 c4, .slice A5 n5 c5])(hI : Off S0 w fun u => IxA u x f ds kf pf BB tot L)(hl5 : L.length ≤ 5000)(hB1 : Blk w b1 34 [.slice A1 n1 c1, .slice A2 n2 c2, .slice A3 n3 c3, .slice A4 n4 c4, .slice A5 n5 c5])(hB2 : Blk w b2 32 [.slice A (Jjf k).length c])(hk : NatV w (.slice A (Jjf k).length c) k)(hk5 : k ≤ 5000)(hS0 : ∀ b, S0 b → b < w.heap.size)(hJ0 : J 0 S0 w)(hJe : ∀ i S W W', J i S W → Ext W W' → J i S W')(hJb : ∀ i S W W' b4 cu, J i S W → w.heap.size ≤ b4 → ¬ S b4 → Blk W b4 87 cu → (∀ u ∈ cu, ∀ s, u ≠ .string s) → GrN (fun b => b = b4) W W' → J i S W')(hR : ∀ i r S W A c, L[k + i]? = some r → GrN S0 w W → (∀ b, S b → b < W.heap.size) → (∀ b, S b → b < w.heap.size → S0 b) → J i S W → RdR W A r → r.length ≤ c → r.length = f → (r ≠ [] → ∀ ad, A = some ad → w.heap.size ≤ ad.block ∧ ¬ S ad.block) →
      ∃ fn tmps assign body, (Instr.yield l [.int .i64 (i : Int), .slice A r.length c].toArray).run Tryz.prog W = .ok (.round l fn tmps assign body) W ∧
        RoundIn Fence.wide 0 Tryz.prog l fn tmps assign body W fun e W' => GrN S W W' ∧ ((e = .returned (.bool true) ∧ ∃ S', (∀ b, S' b → S b ∨ (W.heap.size ≤ b ∧ b < W'.heap.size)) ∧ J (i + 1) S' W') ∨ (e = .returned (.bool false) ∧ Jx W'))):
    Ret Tryz.prog 91 [.func (.yield l) #[] #[], .pointer (some ⟨b1, 0, none⟩), .pointer (some ⟨b2, 0, none⟩)] w fun u w' => GrN S0 w w' ∧ ((∃ S, J (L.length - k) S w' ∧ (∀ b, S b → b < w.heap.size → S0 b)) ∨ Jx w') := by
  subst hx
  have hI0 := hI.here
  refine Jjc Tryz.func91 Tryz.ntmps91 rfl kr rfl ?_
  refine ρ ?_
  refine ldW hB1 ?_
  refine ρ ?_
  refine ld (hB2.at (i := 0) rfl) ?_
  refine ρ ?_
  have hlk := limbs_s (p := k) om
  refine cl (seek_any hI0 hk om) ?_
  rintro u w1 ⟨hx1, h1⟩
  by_cases hkl : L.length < k
  . rw [if_pos hkl] at h1
    subst h1
    refine ρ ?_
    refine alc zCur ?_
    intro w2 b4 hx2 hb4 hB4
    refine ρ ?_
    refine stW hB4 ?_
    intro w3 hB3 hg3 hx3
    have hx03 : Ext w w3 := (hx1.trans (hx3 w1 hx2 hb4))
    refine ρ ?_
    refine Xkg ⟨GrN.ext hx03, .inl ⟨S0, ?_, fun b hb _ => hb⟩⟩
    rw [show L.length - k = 0 by omega]
    exact hJe _ _ _ _ hJ0 hx03
  rw [if_neg hkl] at h1
  obtain ⟨cu, rfl, hcu⟩ := h1
  obtain ⟨Q0, q0, rfl⟩ := hcu.parts
  refine ρ ?_
  refine alc zCur ?_
  intro w2 b4 hx2 hb4 hB4
  refine ρ ?_
  refine stW hB4 ?_
  intro w3 hB3 hg3 hx3
  have hx13 : Ext w1 w3 := hx3 w1 hx2 hb4
  have hx03 : Ext w w3 := hx1.trans hx13
  have hb4w : w.heap.size ≤ b4 := nL hx1.size hb4
  refine ρ ?_
  refine Jpb (fun (i : Nat) (cu : List Value) (S : Nat → Prop) (st : Nat) => [(0, .func (.yield l) #[] #[]), (4, .pointer (some ⟨b4, 0, none⟩)), (6, .int .i64 (i : Int))])
    (fun i cu S st W => i ≤ L.length - k ∧ GrN S0 w W ∧ (∀ b, S b → b < W.heap.size) ∧ (∀ b, S b → b < w.heap.size → S0 b) ∧ ¬ S b4 ∧ J i S W ∧ Blk W b4 87 cu ∧ CuV W (.agg #[.slice A1 n1 c1, .slice A2 n2 c2, .slice A3 n3 c3, .slice A4 n4 c4, .slice A5 n5 c5]) (.agg cu.toArray) (k + i) st)
    (fun i _ _ _ => L.length - k - i) 0 _ S0 0 sB
    ⟨Nat.zero_le _, GrN.ext hx03, fun b hb => nM (hS0 b hb) hx03.size, fun b hb _ => hb, fun h => by have := hS0 _ h; omega, hJe _ _ _ _ hJ0 hx03, hB3, hcu.ext hx13⟩ ?_
  rintro i cu S st W ⟨hi, hgW, hS1, hS2, hS3, hJi, hBc, hcu⟩
  have hIW := hI W hgW
  obtain ⟨Q1, q1, hcu1⟩ := hcu.parts
  have hcu2 := congrArg (fun v => match v with | .agg a => a.toList | _ => []) hcu1
  simp only at hcu2
  have hcu3 : cu = _ := hcu2
  subst hcu3
  refine ρ ?_
  refine ldW hBc ?_
  refine ρ ?_
  refine cl (nextF_any hIW hcu (by have := limbs_s (p := k + i) om; omega)) ?_
  rintro u W1 ⟨hxW1, h1⟩
  cases hr : L[k + i]? with
  | none =>
    rw [hr] at h1
    simp only at h1
    obtain ⟨cu', rfl, hcu'⟩ := h1
    obtain ⟨Q2, q2, rfl⟩ := hcu'.parts
    refine ρ ?_
    refine alc zCur ?_
    intro W2 b7 hxW2 hb7 hB7
    refine ρ ?_
    refine stW hB7 ?_
    intro W3 hB73 hgW3 hxW3
    have hxf : Ext W W3 := hxW1.trans (hxW3 W1 hxW2 hb7)
    refine ρ ?_
    refine Xkg ⟨hgW.trans (GrN.ext hxf), .inl ⟨S, ?_, hS2⟩⟩
    have e : L.length - k = i := by
      have := List.getElem?_eq_none_iff.1 hr
      omega
    rw [e]
    exact hJe _ _ _ _ hJi hxf
  | some r =>
    rw [hr] at h1
    simp only at h1
    obtain ⟨cu', RA, rc, st', rfl, hcu', hrR, hrc, hrl, hst, hfr, hrF⟩ := h1
    obtain ⟨Q2, q2, hcu1'⟩ := hcu'.parts
    have hil : k + i < L.length := (List.getElem?_eq_some_iff.1 hr).1
    subst hcu1'
    refine ρ ?_
    refine alc zCur ?_
    intro W2 b7 hxW2 hb7 hB7
    refine ρ ?_
    refine stW hB7 ?_
    intro W3 hB73 hgW3 hxW3
    have hxf : Ext W W3 := hxW1.trans (hxW3 W1 hxW2 hb7)
    have hxW13 : Ext W1 W3 := hxW3 W1 hxW2 hb7
    refine wp Qfw rfl rfl ?_
    refine wp Qfw rfl rfl ?_
    refine Jzd ?_
    refine qnext ?_
    refine wseq ?_
    refine wseq ?_
    refine wyreg ?_
    refine xl_cut 6 ?_
    simp only [List.take_succ_cons, List.take_zero, List.drop_succ_cons, List.drop_zero]
    refine ρ ?_
    refine cutEnd ?_
    refine xguard rfl rfl ?_
    obtain ⟨fn, tmps, assign, body, hy, hRd⟩ := hR i r S W3 RA rc hr (hgW.trans (GrN.ext hxf)) (fun b hb => nM (hS1 b hb) hxf.size) hS2 (hJe _ _ _ _ hJi hxf) (Rd.ext hrR hxW13) hrc hrl (fun h0 ad e => ⟨nL hgW.size (hrF h0 ad e), fun h => by have := hS1 _ h; have := hrF h0 ad e; omega⟩)
    refine xyield hy (hRd.mono ?_)
    have hb7W : W.heap.size ≤ b7 := nL hxW1.size hb7
    have hS7 : ¬ S b7 := fun h => by have := hS1 _ h; omega
    rintro e W4 ⟨hg4, ⟨rfl, S', hS', hJ4⟩ | ⟨rfl, hJx⟩⟩
    . refine ⟨_, rfl, xl_wl ?_⟩
      refine ρ ?_
      refine shEnd ?_
      have hB74 := Jqb hB73 hg4 hS7
      have hB44 := Jqb (hBc.ext hxf) hg4 hS3
      have hcu4 := (hcu'.ext hxW13).fr hfr (fun b hb => hS1 b hb) hg4
      refine ρ ?_
      refine ldW hB74 ?_
      refine ρ ?_
      refine stW hB44 ?_
      intro W5 hB5 hg5 hx5
      have hg45 : GrN (fun b => b = b4) W4 W5 := GrN.by hg5 fun k hk => by injection hk with hk; exact hk.symm
      have hg04 : GrN S0 w W4 := ⟨(hgW.trans (GrN.ext hxf)).os ▸ hg4.os, (hgW.trans (GrN.ext hxf)).tape ▸ hg4.tape, (hgW.trans (GrN.ext hxf)).output ▸ hg4.output, nL (hgW.trans (GrN.ext hxf)).size hg4.size, fun q hq hn => (hg4.block q (nM hq (hgW.trans (GrN.ext hxf)).size) fun hs => hn (hS2 q hs hq)).trans ((hgW.trans (GrN.ext hxf)).block q hq hn)⟩
      have h4S : ¬ S' b4 := fun h => by
        rcases hS' _ h with h | ⟨h, _⟩
        . exact hS3 h
        . have := (hBc.ext hxf).lt; omega
      have hcu5 := (hcu4.off hB44 no_u32) W5 hg45
      refine ρ ?_
      refine Jvt (i + 1) _ S' st' sO ⟨om, ⟨hg45.os.trans hg04.os, hg45.tape.trans hg04.tape, hg45.output.trans hg04.output, nL hg04.size hg45.size, fun q hq hn => (hg45.block q (nM hq hg04.size) (fun e => by omega)).trans (hg04.block q hq hn)⟩, ?_, ?_, h4S, ?_, hB5, ?_⟩ om
      . intro b hb
        rcases hS' b hb with hb | ⟨_, hb⟩
        . have := hS1 b hb; have := hxf.size; have := hg4.size; have := hg45.size; omega
        . have := hg45.size; omega
      . intro b hb hbw
        rcases hS' b hb with hb | ⟨hb, _⟩
        . exact hS2 b hb hbw
        . have := (hgW.trans (GrN.ext hxf)).size; omega
      . exact hJb _ _ _ _ _ _ hJ4 hb4w h4S hB44 no_str hg45
      . rw [show k + (i + 1) = k + i + 1 by omega]; exact hcu5
    . refine ⟨_, rfl, xl_wl ?_⟩
      refine ρ ?_
      refine shEnd ?_
      refine ρ ?_
      refine Xkg ⟨?_, .inr hJx⟩
      exact ⟨hg4.os.trans (hgW.trans (GrN.ext hxf)).os, hg4.tape.trans (hgW.trans (GrN.ext hxf)).tape, hg4.output.trans (hgW.trans (GrN.ext hxf)).output, nL (hgW.trans (GrN.ext hxf)).size hg4.size, fun q hq hn => (hg4.block q (nM hq (hgW.trans (GrN.ext hxf)).size) fun hs => hn (hS2 q hs hq)).trans ((hgW.trans (GrN.ext hxf)).block q hq hn)⟩
end
open Go.RowKit Pl Go.Wk
theorem callableAll: Qbg Tryz.prog 91:=⟨_,_,Tryz.func91,rfl,kr⟩
structure LpI(W:World)(D fn:Nat)(tmps:Array Value)(ps:Array Tmp)(assign body:Code)(st:LoopState)(pe:Option Code): Prop where
 l:W.heap[D+1]?=some (.loop (rec0 D fn tmps ps assign body st pe))
 d:W.heap[D]?=some (.deferred (some []))
section
variable {W W':World} {D fn:Nat} {tmps:Array Value} {ps:Array Tmp} {assign body:Code} {st st':LoopState} {pe pe':Option Code}
theorem LpI.gr{N:Nat->Prop}(h:LpI W D fn tmps ps assign body st pe)(hg:GrN N W W')(h0:¬ N D)(h1:¬ N (D+1)): LpI W' D fn tmps ps assign body st pe :=
 ⟨(hg.block _ (Array.getElem?_eq_some_iff.1 h.l).1 h1).trans h.l,(hg.block _ (Array.getElem?_eq_some_iff.1 h.d).1 h0).trans h.d⟩
theorem LpI.put(h:LpI W D fn tmps ps assign body st pe): LpI (W.putObj (D+1) (.loop (rec0 D fn tmps ps assign body st' pe'))) D fn tmps ps assign body st' pe' :=
 ⟨World.putObj_heap_same (Array.getElem?_eq_some_iff.1 h.l).1,(World.putObj_heap_other om).trans h.d⟩
theorem LpI.new(W:World): LpI ((W.alloc (.deferred (some []))).alloc (.loop (rec0 W.heap.size fn tmps ps assign body st pe))) W.heap.size fn tmps ps assign body st pe:=by
 refine ⟨?_,?_⟩
 .have:=World.alloc_heap_new (W.alloc (.deferred (some []))) (.loop (rec0 W.heap.size fn tmps ps assign body st pe));rwa [World.size_alloc]at this
 .exact (Below.heap_alloc _ _ _ (by simp)).trans (World.alloc_heap_new W _)
end
end Go.Proofs.YtefpailelagbkaaGreatDoor
