/- Part 3 of the proof: Wa3, Wa4, Wa5. -/
import Derived.Test.YtefpailelagbkaaGreatDoorKno44
set_option linter.unusedVariables false
set_option maxRecDepth 100000
set_option maxHeartbeats 40000000
namespace Go.Proofs.YtefpailelagbkaaGreatDoor
open Go.RowKit Pl Go.Wk
attribute [local irreducible] WC WL QX WD WDB WP WN WG WH WM
theorem bldCur0(w:World): (Instr.build 87 #[]).run Tryz.prog w=.ok (.agg #[.slice none 0 0,.slice none 0 0,.slice none 0 0,.slice none 0 0,.slice none 0 0,.slice none 0 0,.int .i64 0]) w:=by kernel_rfl
section
variable {w:World} {x:Value} {f:Nat} {ds:List Bool} {kf:Nat->Nat} {pf:Nat->Int} {BB:Nat->List BkT} {tot:Nat} {L:List Row}
theorem seek_any(h:IxA w x f ds kf pf BB tot L){k:Nat}{kv:Value}(hk:NatV w kv k)(hl:(Jjf k).length<=1000):
  Ret Tryz.prog 46 [x,kv] w λu w'=>Ext w w'/\if L.length<k then u=.tuple #[.agg #[.slice none 0 0,.slice none 0 0,.slice none 0 0,.slice none 0 0,.slice none 0 0,.slice none 0 0,.int .i64 0],.int .i64 3] else ∃ cu,u=.tuple #[cu,.int .i64 0]/\CuV w' x cu k 0:=by
 obtain ⟨DA,dc,BA,cb,KA,ck,PA,cp,tv,ao,an,rfl,ar,au,hD,hB,hK,hP,af,ap⟩:=id h.ix.ex;obtain ⟨TA,tc,rfl,_⟩:=id af;obtain ⟨QA,qc,rfl,_⟩:=id hk;refine Jjc Tryz.func46 Tryz.ntmps46 rfl (by kernel_rfl) rfl ?_;refine ρ ?_;refine bx ?_;intro w1 b U hb a8;refine ρ ?_;refine alc zCur ?_;intro w2 b2 a4 a7 a1;have a9:=a8.ext a4;have i:=U.trans a4;refine ρ ?_;refine ldW a9 ?_;refine ρ ?_;refine cl (Qxt (h.ix.ext i) h.ip.nbT) ?_;rintro u w3 ⟨ae,_,a3⟩;refine ρ ?_;refine cl (Jkw ((hk.ext i).ext a3) ae) ?_;rintro _ w4 ⟨rfl,ac⟩;have o:=a3.trans ac;refine ρ ?_;refine ci (λhc=>?_) (λhc=>?_)
 ·have Z:L.length<k:=by
   have G:=oT hc;rw [h.ip.len]at G;unfold Qcv at G;by_cases c1:k<L.length
   ·rw [if_pos c1]at G;omega
   ·rw [if_neg c1]at G;by_cases c2:L.length<k
    ·exact c2
    ·rw [if_neg c2]at G;omega
  refine ρ ?_;refine bld (bldCur0 _) ?_;refine ρ ?_;refine stW (a1.ext o) ?_;intro w5 am aq D;have O:Ext w w5:=D w (i.trans o) (nL U.size a7);refine ρ ?_;refine Jvr am ⟨O,?_⟩;rw [if_pos Z]
 have aj:¬ L.length<k:=λZ=>by
  have G:=oF hc;rw [h.ip.len]at G;apply G
  unfold Qcv;rw [if_neg (by omega),if_pos Z];decide
 have a2:Ext w4 w4.drew:=(Ext.refl w4).drew;have av:=a1.lt;have aa:¬ b=b2:=λe=>by have:=a8.lt;omega
 refine ρ ?_;refine drN (λk=>k=b2) 8 [(0,0),(0,1),(1,2),(0,3),(1,4),(0,5)] (by kernel_rfl) ?_;refine ρn ?_;refine Jlg (cs:=[.slice DA f dc,.slice BA f cb,.slice KA f ck,.slice PA f cp,.slice TA (Jjf tot).length tc]) (λw' hg j u hu=>(Jjw ((a9.ext o).ext a2) hg aa).at hu) ?_;refine ρn ?_;refine nop ?_;have C:=o.trans a2;refine cl (Jyj (hk.ext (i.trans C)) hl) ?_;rintro nv w5 ⟨a5,ah,D⟩;obtain ⟨NA,nc,rfl,_⟩:=id a5;refine ρ ?_;refine Jqt (GrN.ext D) ?_;refine ρn ?_;refine Xqb (bldCur2 _ _ _ _ _ _ _ _ _ _ _ _ _ _ _ _ _ _) ?_;refine ρn ?_;refine nop ?_;have J:=C.trans D;refine stW (a1.ext J) ?_;intro w6 ak a6 ab;have O:Ext w w6:=ab w (i.trans J) (nL U.size a7);have ai:GrN (λk=>k=b2) w5 w6:=GrN.by a6 λk hk=>by injection hk with hk;exact hk.symm
 refine Jzr (Jqt ai ?_);refine ρn ?_;refine ρ ?_;have ag:NatV w6 (.slice NA (Jjf k).length nc) k:=a5.grown a6 λad m c e=>by
  have G:=ah ad m c e;have h2:=C.size;intro e2;injection e2 with e2
  omega
 refine Jvr ak ⟨O,?_⟩;rw [if_neg aj];exact ⟨_,rfl,DA,BA,KA,PA,TA,_,_,_,_,_,dc,cb,ck,cp,tc,_,rfl,rfl,ag⟩
end
open Go.RowKit Pl Go.Wk
theorem natOff{w:World}{v:Value}{n b t:Nat}{cs:List Value}(h:NatV w v n)(hB:Blk w b t cs)(hs:∀ u∈cs,∀ z,u≠.int .u32 z): Off (λk=>k=b) w λu=>NatV u v n:=by
 obtain ⟨A,c,rfl,j,o,G⟩:=h;refine (Xkq G λh0 D e (J:D.block=b)=>?_).imp λu O=>⟨A,c,rfl,j,o,O⟩;obtain ⟨a1,C,U,i⟩:=G.2 h0;rw [e]at C;injection C with C
 subst C;rw [Xyq]at h0;have j:=i 0 _ (Jzh h0);rw [add_zero]at j;have o:=World.cell?_spot j;have Z:D=⟨b,D.off,none⟩:=by
  obtain ⟨qb,qo,qs⟩:=D;simp only at o J;subst o;subst J;rfl
 rw [Z,hB.cell]at j;exact hs _ (List.mem_of_getElem? j) _ rfl
theorem CuV.off{w:World}{x cu:Value}{p st b t:Nat}{cs:List Value}(h:CuV w x cu p st)(hB:Blk w b t cs)(hs:∀ u∈cs,∀ z,u≠.int .u32 z): Off (λk=>k=b) w λu=>CuV u x cu p st:=by
 obtain ⟨A1,A2,A3,A4,A5,D,C,o,j,i,c1,c2,c3,c4,Z,pv,U,O,J⟩:=h;exact (natOff J hB hs).imp λu G=>⟨A1,A2,A3,A4,A5,D,C,o,j,i,c1,c2,c3,c4,Z,pv,U,O,G⟩
theorem no_u32{A B C D E F:Option Addr}{a b c d e f a' b' c' d' e' f':Nat}{z:Int}: ∀ u∈[Value.slice A a a',.slice B b b',.slice C c c',.slice D d d',.slice E e e',.slice F f f',.int .i64 z],∀ s,u≠.int .u32 s:=λu i s=>by
 simp only [List.mem_cons,List.not_mem_nil,or_false]at i;rcases i with rfl|rfl|rfl|rfl|rfl|rfl|rfl<;>simp
theorem CuV.parts{w:World}{A B C D E:Option Addr}{a b c d e a' b' c' d' e':Nat}{cu:Value}{p st:Nat}(h:CuV w (.agg #[.slice A a a',.slice B b b',.slice C c c',.slice D d d',.slice E e e']) cu p st):
  ∃ Q q,cu=.agg #[.slice A a a',.slice B b b',.slice C c c',.slice D d d',.slice E e e',.slice Q (Jjf p).length q,.int .i64 (st:Int)]:=by
 obtain ⟨A1,A2,A3,A4,A5,U,O,J,G,u,c1,c2,c3,c4,Z,pv,i,o,j⟩:=h;obtain ⟨Q,q,rfl,_⟩:=id j;simp only [Value.agg.injEq,Array.mk.injEq,List.cons.injEq,Value.slice.injEq,and_true]at i;obtain ⟨⟨rfl,rfl,rfl⟩,⟨rfl,rfl,rfl⟩,⟨rfl,rfl,rfl⟩,⟨rfl,rfl,rfl⟩,⟨rfl,rfl,rfl⟩⟩:=i;exact ⟨Q,q,o⟩
theorem limbs_s{p:Nat}(h:p<4294967296): (Jjf p).length<=1:=by
 rcases Nat.eq_zero_or_pos p with rfl|h0
 ·rw [limbs_0];simp
 ·rw [Qgn (by omega) h];simp
def exB: Cse:=Jzq [false,false] (nR 1 2) (nR 1 3) (nR 2 1)
theorem exB_good: Xyt exB:=goodE rfl ⟨rfl,rfl⟩ ⟨rfl,rfl⟩ ⟨rfl,rfl⟩
theorem exB_ans: exB.ans=[nR 1 2,nR 1 3,nR 2 1]:=by decide
theorem exB_fit: ∀ i,i<exB.rss.length->∀ r∈exB.rss.getD i [],∀ u∈r,Qwt u:=λi hi r o u j=>by
 have:i=0:=by simp [exB,Jzq]at hi;exact hi
 subst this;simp only [exB,Jzq,List.getD_cons_zero,List.mem_cons,List.not_mem_nil,or_false]at o;rcases o with rfl|rfl|rfl <;>
 ·simp only [nR,List.mem_cons,List.not_mem_nil,or_false]at j;rcases j with rfl|rfl<;>exact Xwj (by decide)
theorem FewS.p{c:Cse}(h:FewS c): FewP c:=⟨h.row,h.cnt,.inl h.n6,h.v5,h.r5⟩
def SF.of(b n:Nat)(p:World->Value->Prop): SF:=⟨λv w=>∃ A c,v=.slice A n c/\Off (λk=>k=b) w λu=>p u v,λ⟨A,c,e,h1⟩ hx=>⟨A,c,e,h1.ext hx⟩⟩
theorem zCse: Jxd Tryz.prog 27=some (.agg #[.int .i64 0,.int .i64 0,.slice none 0 0,.slice none 0 0,.slice none 0 0,.slice none 0 0]):=by kernel_rfl
theorem Xys.lit1{w:World}{b:Nat}{v:Value}{zs:List Int}(h:Blk w b 23 [v])(hv:IntsV w v zs): Xys w (.slice (some ⟨b,0,none⟩) 1 1) [zs]:=⟨_,1,[v],rfl,Nat.le_refl _,by simp,h.rd rfl,λi hi=>by
 have:i=0:=by simp at hi;exact hi
 subst this;exact ⟨v,rfl,hv⟩⟩
theorem Xym.lit1{w:World}{b:Nat}{v:Value}{rs:List Row}(h:Blk w b 35 [v])(hv:RowsV w v rs): Xym w (.slice (some ⟨b,0,none⟩) 1 1) [rs]:=⟨_,1,[v],rfl,Nat.le_refl _,by simp,h.rd rfl,λi hi=>by
 have:i=0:=by simp at hi;exact hi
 subst this;exact ⟨v,rfl,hv⟩⟩
def exF(b:Nat): List SF:=[
 SF.of b 2 (λw v=>BoolsV w v [false,false]),SF.of b 2 (λw v=>IntsV w v [0,1]),SF.of b 1 (λw v=>Xys w v [[0,1]]),
 SF.eq (nV 1).val,SF.eq (nV 2).val,SF.of b 2 (λw v=>RowV w v (nR 1 2)),SF.eq (nV 1).val,SF.eq (nV 3).val,SF.of b 2 (λw v=>RowV w v (nR 1 3)),SF.eq (nV 2).val,SF.eq (nV 1).val,SF.of b 2 (λw v=>RowV w v (nR 2 1)),
 SF.of b 3 (λw v=>RowsV w v [nR 1 2,nR 1 3,nR 2 1]),SF.of b 1 (λw v=>Xym w v [[nR 1 2,nR 1 3,nR 2 1]])]
theorem example44_any(w:World): Ret Tryz.prog 89 [] w λu w'=>∃ cs,u=.agg cs.toArray/\CseV w' cs exB/\Ext w w':=by
 refine Jjc Tryz.func89 Tryz.ntmps89 rfl (by kernel_rfl) rfl ?_;refine ρ ?_;refine alc zCse ?_;intro w1 b1 a8 aa a6;refine ρ ?_;have O:∀ C,Ext w1.drew C->b1<C.heap.size:=λC hx=>((a6.ext (Ext.refl w1).drew).ext hx).lt;refine drH (λi=>Nat.beq i 15) ?_;refine hmk 14 16 2 [1,2,3,4,5,6,7,8,9,10,11,12,13,14] (exF b1) (by kernel_rfl) (by rfl) ?_ ?_
 ·refine gmc (λvs C o D=>?_) ?_
  ·refine mkn EB 2 (by decide) (by decide) ?_;intro G A j ho hf;have e:(madeCells (Value.bool false).cells (2*1)).toList=[Value.bool false,.bool false]:=by rw [Nat.mul_one];exact Jlk _ _
   rw [e]at ho;exact Jzr (mdone j ⟨A,2,rfl,(Xkq (Rd.own ho) λ_ ad e=>by have:=hf ad e;have:=O C o;show ¬ ad.block=b1;omega).imp λu hu=>⟨A,2,rfl,Nat.le_refl _,by decide,hu⟩⟩)
  refine gmc (λvs C o D=>?_) ?_
  ·refine bsl (bs2I _ _) ?_;intro G b j hb U;exact Jzr (mdone j ⟨_,_,rfl,λW J=>⟨some ⟨b,0,none⟩,2,rfl,Nat.le_refl _,by decide,(Jjw U J (by have:=O C o;omega)).rd rfl⟩⟩)
  refine gmc (λvs C o D=>?_) ?_
  ·obtain ⟨A,c,e,h⟩:=D 1;simp only [slM,e]at h ⊢;refine bsl (bs1II _ _ _) ?_;intro G b j hb U;exact Jzr (mdone j ⟨_,_,rfl,λW J=>Xys.lit1 (Jjw U J (by have:=O C o;omega)) (Off.ext h j W J)⟩)
  refine gmc (λvs C o D=>?_) ?_
  ·refine cl (num44_any 1 _) ?_;rintro _ G ⟨rfl,j⟩;exact Jzr (mdone j rfl)
  refine gmc (λvs C o D=>?_) ?_
  ·refine cl (num44_any 2 _) ?_;rintro _ G ⟨rfl,j⟩;exact Jzr (mdone j rfl)
  refine gmc (λvs C o D=>?_) ?_
  ·have e3:vs 3=(nV 1).val:=D 3;have e4:vs 4=(nV 2).val:=D 4;simp only [slM,e3,e4];refine bsl (bs2V _ _) ?_;intro G b j hb U;exact Jzr (mdone j ⟨_,_,rfl,λW J=>litRow (r:=nR 1 2) (Jjw U J (by have:=O C o;omega)) (by decide)⟩)
  refine gmc (λvs C o D=>?_) ?_
  ·refine cl (num44_any 1 _) ?_;rintro _ G ⟨rfl,j⟩;exact Jzr (mdone j rfl)
  refine gmc (λvs C o D=>?_) ?_
  ·refine cl (num44_any 3 _) ?_;rintro _ G ⟨rfl,j⟩;exact Jzr (mdone j rfl)
  refine gmc (λvs C o D=>?_) ?_
  ·have e3:vs 6=(nV 1).val:=D 6;have e4:vs 7=(nV 3).val:=D 7;simp only [slM,e3,e4];refine bsl (bs2V _ _) ?_;intro G b j hb U;exact Jzr (mdone j ⟨_,_,rfl,λW J=>litRow (r:=nR 1 3) (Jjw U J (by have:=O C o;omega)) (by decide)⟩)
  refine gmc (λvs C o D=>?_) ?_
  ·refine cl (num44_any 2 _) ?_;rintro _ G ⟨rfl,j⟩;exact Jzr (mdone j rfl)
  refine gmc (λvs C o D=>?_) ?_
  ·refine cl (num44_any 1 _) ?_;rintro _ G ⟨rfl,j⟩;exact Jzr (mdone j rfl)
  refine gmc (λvs C o D=>?_) ?_
  ·have e3:vs 9=(nV 2).val:=D 9;have e4:vs 10=(nV 1).val:=D 10;simp only [slM,e3,e4];refine bsl (bs2V _ _) ?_;intro G b j hb U;exact Jzr (mdone j ⟨_,_,rfl,λW J=>litRow (r:=nR 2 1) (Jjw U J (by have:=O C o;omega)) (by decide)⟩)
  refine gmc (λvs C o D=>?_) ?_
  ·obtain ⟨A,c,e,h⟩:=D 5;obtain ⟨A',c',e',h'⟩:=D 8;obtain ⟨a4,a3,a2,Z⟩:=D 11;simp only [slM,e,e',a2]at h h' Z ⊢;refine bsl (bs3R _ _ _ _ _ _ _ _ _) ?_;intro G b j hb U;refine Jzr (mdone j ⟨_,_,rfl,λW J=>?_⟩);refine litRows [(.slice A 2 c,nR 1 2),(.slice A' 2 c',nR 1 3),(.slice a4 2 a3,nR 2 1)] (Jjw U J (by have:=O C o;omega)) (λp hp=>?_) (by simp);simp only [List.mem_cons,List.not_mem_nil,or_false]at hp;rcases hp with rfl|rfl|rfl
   ·exact Off.ext h j W J
   ·exact Off.ext h' j W J
   ·exact Off.ext Z j W J
  refine gmc (λvs C o D=>?_) gme
  ·obtain ⟨A,c,e,h⟩:=D 12;simp only [slM,e]at h ⊢;refine bsl (bs1RR _ _ _) ?_;intro G b j hb U;exact Jzr (mdone j ⟨_,_,rfl,λW J=>Xym.lit1 (Jjw U J (by have:=O C o;omega)) (Off.ext h j W J)⟩)
 ·intro vs C o hf;obtain ⟨A,c,e,h⟩:=hf 0;obtain ⟨A',c',e',h'⟩:=hf 2;obtain ⟨a4,a3,a2,Z⟩:=hf 13;simp only [slM,e,e',a2]at h h' Z ⊢;refine Qjk 16 [(0,14),(2,15)] (fuel':=0) (lst 16 16) (by kernel_rfl) (by kernel_rfl) rfl ?_;refine dbld (bldCase _ _ _ _ _ _ _ _ _) ?_;have a5:Ext w1 C:=(Ext.refl w1).drew.trans o;refine Jqs ?_;refine stW ((a6.ext (Ext.refl w1).drew).ext o) ?_;intro G ab a9 j;refine Jzr (Jxr ?_);refine Qhs (Jzn ?_);refine hend (by kernel_rfl) ?_;have a7:Ext w G:=j w (a8.trans a5) aa;have a1:GrN (λk=>k=b1) C G:=GrN.by a9 λk U=>by injection U with U;exact U.symm
  refine ρ ?_;exact Qhj ab ⟨_,rfl,⟨A,c,none,0,A',c',a4,a3,rfl,h G a1,⟨none,0,rfl,Nat.le_refl _,Nat.zero_le _,Rd.nil⟩,h' G a1,Z G a1,by simp [exB,Jzq],by simp [exB,Jzq]⟩,a7⟩
theorem no_str5{A B C D E:Option Addr}{a b c d e a' b' c' d' e':Nat}: ∀ u∈[Value.slice A a a',.slice B b b',.slice C c c',.slice D d d',.slice E e e'],∀ s,u≠.string s:=λu i s=>by
 simp only [List.mem_cons,List.not_mem_nil,or_false]at i;rcases i with rfl|rfl|rfl|rfl|rfl<;>simp
theorem RowsV.off{w:World}{v:Value}{L:List Row}{b t:Nat}{cs:List Value}(h:RowsV w v L)(hf:∀ ad m c,v=.slice (some ad) m c->ad.block≠b)(hB:Blk w b t cs)(hs:∀ u∈cs,∀ s,u≠.string s): Off (λk=>k=b) w λu=>RowsV u v L:=by
 obtain ⟨ps,A,c,rfl,rfl,G,D,C,o⟩:=h;exact λW i=>⟨ps,A,c,rfl,rfl,G,D,Qqk C i (λ_ ad e=>hf ad _ _ (by rw [e])),λp j=>by
  obtain ⟨A',c',Z,U,O,J⟩:=o p j;exact ⟨A',c',Z,U,O,(rowOff J hB hs) W i⟩⟩
theorem made44_any{B0:Nat}{w:World}{cs:List Value}{c:Cse}(hTB:TB B0 w)(h:CseV w cs c)(hfit:∀ i,i<c.rss.length->∀ r∈c.rss.getD i [],∀ u∈r,Qwt u):
  Ret Tryz.prog 45 [.agg cs.toArray] w λu w'=>Ext w w'/\((u=.tuple #[.agg #[.slice none 0 0,.slice none 0 0,.slice none 0 0,.slice none 0 0,.slice none 0 0],.slice none 0 0,.bool false,.bool true]/\¬ Xyt c) ∨
   ∃ (ats:List Atm) (x av:Value) (kf:Nat->Nat) (pf:Nat->Int) (BB:Nat->List BkT) (tot:Nat),CseOk c ats/\u=.tuple #[x,av,.bool true,.bool true]/\IxA w' x c.F c.ds kf pf BB tot c.ans/\RowsV w' av c.ans):=by
 obtain ⟨dA,dc,pA,pc,vA,vc,rA,rc,rfl,hD,hP,hV,hR,hn,hf⟩:=id h;refine Jjc Tryz.func45 Tryz.ntmps45 rfl (by kernel_rfl) rfl ?_;refine ρ ?_;refine bx ?_;intro w1 b a7 hb hB;refine ρ ?_;refine alc Qcz ?_;intro w2 b2 ap b6 c7;have bd:=hB.ext ap;refine ρ ?_;refine ldW bd ?_;refine ρ ?_;refine cl (Xzx (h.ext (a7.trans ap))) ?_;rintro u w3 ⟨ao,ck,cc,aA,cj,cb,ac,an,ok,rfl,bz,bw,bo,ay⟩;refine ρ ?_;refine alc zInp ?_;intro w4 b4 bj bs c6;refine ρ ?_;refine stW c6 ?_;intro w5 c5 ch bi;have O:Ext w3 w5:=bi w3 bj bs;have ba:=(c7.ext ao).ext O;have ai:=(bd.ext ao).ext O;have ab:=((a7.trans ap).trans ao).trans O;refine ρ ?_;refine ldW ai ?_;refine ρ ?_;refine cl (few_any (h.ext ab)) ?_;rintro u w6 ⟨a3,fw,rfl,b3,bp⟩;have J:=O.trans a3;have U:=ab.trans a3;have a5:=ba.ext a3;refine ρ ?_;refine Jwr (fun (t:Bool)=>[(22,.bool t),(1,.pointer (some ⟨b,0,none⟩)),(2,.pointer (some ⟨b2,0,none⟩)),(3,.slice none 0 0),(4,.bool false),(5,.bool false),(6,.pointer (some ⟨b4,0,none⟩)),(7,.bool ok)]) (λt w7=>w7=w6/\t = !(fw && ok)) ?_ ?_
 ·cases fw with
  | false=>
   refine ρ ?_;exact Jjn true sB ⟨rfl,rfl⟩
  | true=>
   refine ρ ?_;exact Jjn (!ok) sB ⟨rfl,by simp⟩
 rintro t w7 ⟨rfl,ht⟩;refine ρ ?_;refine ci (λh=>?_) (λh=>?_)
 ·subst h;refine ρ ?_;refine bld (bldIndex0 _) ?_;refine ρ ?_;refine stW a5 ?_;intro w8 c4 cg a2;have bg:Ext w w8:=a2 w U (nL a7.size b6);refine ρ ?_;refine finC4 c4 ⟨bg,.inl ⟨rfl,λhG=>?_⟩⟩;have h1:=bp hG.1;have h2:=ay hG.2.1 hG.2.2;rw [h1,h2]at ht;cases ht
 ·subst h;obtain ⟨c9,c8⟩:fw=true/\ok=true:=by
   cases fw<;>cases ok<;>simp at ht ⊢
  subst c9;subst c8;obtain ⟨az,ats,bu,hG,hmk,b5⟩:=bo rfl;have G:CseOk c ats:=⟨b3 rfl,az,bu,hmk,b5 trivial,hfit⟩;have b8:=c5.ext a3;refine ρ ?_;refine ldW b8 ?_;obtain ⟨ts,a8,c2⟩:=bldV_of G (bz.ext J) (bw.ext J) (hG.ext J λcs a ⟨t,e,h⟩=>⟨t,e,h.ext J⟩);have bm:ts.length=c.m:=by have:=G.al;rw [a8,List.length_map]at this;exact this
  refine ρ ?_;refine cl (Xqm (hTB.ext U) (G.bldI a8) c2) ?_;rintro u w8 ⟨a2,x,st,kf,pf,R,rfl,hE,af⟩;obtain ⟨XA,xd,YA,yd,ZA,zd,UA,ud,tv,cd,ca,rfl,_,_,_,_,_,_,bl,_⟩:=id af.here.ex;obtain ⟨TA,tc,rfl,_⟩:=id bl;have ag:=a5.ext a2;refine ρ ?_;refine alc Qcz ?_;intro wa b9 bh br c1;refine ρ ?_;refine stW c1 ?_;intro w9 c3 ce aw;have a6:Ext w8 w9:=aw w8 bh br;have aa:Ext w w9:=(U.trans a2).trans a6;have bq:=a5.lt;have au:¬ b=b2:=λe=>by have:=hB.lt;omega
  have bf:¬ b9=b2:=λe=>by have:=ag.lt;omega
  have bb:=((ai.ext a3).ext a2).ext a6;have a4:=ag.ext a6;have aq:=af.ext a6;have a1:Ext w9 w9.drew:=(Ext.refl w9).drew;have am:=aa.trans a1;have c0:=c3.ext a1;have ah:=bb.ext a1;have bv:=CseV.rin (hV.ext am) (hR.ext am) G;have bn:c.rss.length=c.m:=by rw [<-G.len];rfl
  refine ρ ?_;refine drN (λk=>k=b2) 13 [(0,0),(0,1),(0,3),(0,4),(0,6),(0,7),(1,2),(1,5),(1,8),(0,9),(0,10),(0,11)] (by kernel_rfl) ?_;refine ρn ?_;refine Jlg (cs:=[.slice XA c.F xd,.slice YA c.F yd,.slice ZA c.F zd,.slice UA c.F ud,.slice TA _ tc]) (λw' hg j u hu=>(Jjw c0 hg bf).at hu) ?_;refine ρn ?_;refine Jlg (cs:=[.int .i64 c.n,.int .i64 c.f,.slice dA c.ds.length dc,.slice pA c.pm.length pc,.slice vA c.vs.length vc,.slice rA c.rss.length rc]) (λw' hg j u hu=>(Jjw ah hg au).at hu) ?_;refine ρn ?_;refine nld (Jjg (ah.at (i:=2) rfl) au) ?_;refine ρn ?_;refine nop ?_;refine cl ref_any ?_;rintro u ak ⟨rfl,C⟩;refine ρ ?_;refine Jqt (GrN.ext C) ?_;refine ρn ?_;refine nop ?_;have hA:Ret Tryz.prog 55 [.agg #[.int .i64 c.n,.int .i64 c.f,.slice pA c.pm.length pc,.slice vA c.vs.length vc,.slice rA c.rss.length rc],.slice dA c.ds.length dc] ak λu w'=>RowsV w' u c.ans/\Ext ak w'/\Fresh ak u:=by
   rw [G.nN.1,G.fF.1,bn];exact rAnswersF_any (pA:=pA) (pn:=c.pm.length) (pc:=pc) (vc:=vc) (rc:=rc) G.refP (bv.ext C) (by have:=G.nN.2;omega) G.fF.2 (hD.ext (am.trans C))
  refine cl hA ?_;rintro av be ⟨bt,ae,b7⟩;refine ρ ?_;refine Jqt (GrN.ext ae) ?_;refine ρn ?_;refine nop ?_;have o:=(a1.trans C).trans ae;refine stW (a4.ext o) ?_;intro aj bc b1 ax;have D:GrN (λk=>k=b2) be aj:=GrN.by b1 λk hk=>by injection hk with hk;exact hk.symm
  have Z:Ext w aj:=ax w (aa.trans o) (nL a7.size b6);have ar:=(RowsV.off bt (λad m c e e2=>by have h1:=b7 ad m c e;have h2:=(a1.trans C).size;have h3:=a4.lt;omega) (a4.ext o) no_str5) aj D;refine Jzr (Jqt D ?_);refine ρn ?_;refine ρ ?_;have a9:=(aq.ext o).gr (D.mono λk _ hk=>by rw [hk];exact bq);exact finC4 bc ⟨Z,.inr ⟨ats,_,av,kf,pf,_,_,G,rfl,ixA_of ⟨B0,hTB.ext Z⟩ (G.bldI a8) (rsA_ts a8) hE a9.here G.ans.1 (λy=>by rw [bm];exact G.ans.2 y) (by have:=G.anl;omega),ar⟩⟩
set_option linter.constructorNameAsVariable false in
theorem awake44_any{B0:Nat}{w:World}(hTB:TB B0 w): Ret Tryz.prog 44 [] w λu w'=>u=.bool true/\Ext w w':=by
 refine Jjc Tryz.func44 Tryz.ntmps44 rfl (by kernel_rfl) rfl ?_;refine ρ ?_;refine cl (example44_any _) ?_;rintro _ w1 ⟨cs,rfl,hC,cb⟩;refine ρ ?_;refine cl (Xzx hC) ?_;rintro u w2 ⟨ca,dA,pA,aA,dc,pc,ac,an,ok,rfl,hD,hP,ck,bh⟩;obtain rfl:ok=true:=bh exB_good.2.1 exB_good.2.2;obtain ⟨bl,ats,cw,hG,hmk,bt⟩:=ck rfl;have o:CseOk exB ats:=⟨exB_good.1.p,bl,cw,hmk,bt trivial,exB_fit⟩;refine ρ ?_;refine alc zInp ?_;intro w3 b3 c9 cv cz;refine ρ ?_;refine stW cz ?_;intro w4 cy dm c8;have i:Ext w2 w4:=c8 w2 c9 cv;have a6:=(cb.trans ca).trans i;refine ρ ?_;refine ldW cy ?_;obtain ⟨ts,a4,cx⟩:=bldV_of o (hD.ext i) (hP.ext i) (hG.ext i λcs a ⟨t,e,h⟩=>⟨t,e,h.ext i⟩);have cd:ts.length=exB.m:=by have:=o.al;rw [a4,List.length_map]at this;exact this
 refine ρ ?_;refine cl (Xqm (hTB.ext a6) (o.bldI a4) cx) ?_;rintro u w5 ⟨c7,x,st,kf,pf,R,rfl,hE,ae⟩;have a5:=a6.trans c7;have a2:=ixA_of ⟨B0,hTB.ext a5⟩ (o.bldI a4) (rsA_ts a4) hE ae.here o.ans.1 (λy=>by rw [cd];exact o.ans.2 y) (by have:=o.anl;omega);obtain ⟨BB,bu⟩:∃ BB,BB=BBx (Jsx exB.N pf (TV exB.N exB.F kf pf R exB.ds (plO (toN exB.pm) exB.F)) (ts.map (·.2))) exB.N exB.F kf pf R exB.ds (plO (toN exB.pm) exB.F):=⟨_,rfl⟩
 obtain ⟨tot,ad⟩:∃ tot,tot=Jsx exB.N pf (TV exB.N exB.F kf pf R exB.ds (plO (toN exB.pm) exB.F)) (ts.map (·.2)):=⟨_,rfl⟩
 rw [<-bu,<-ad,exB_ans]at a2;clear bu ad ae hE;obtain ⟨XA,xd,YA,yd,ZA,zd,UA,ud,tv,dk,dj,rfl,_,_,_,_,_,_,cc,_⟩:=id a2.ix.ex;obtain ⟨TA,tc,rfl,_⟩:=id cc;refine ρ ?_;refine alc Qcz ?_;intro w6 b6 c6 cr cp;refine ρ ?_;refine stW cp ?_;intro w7 co dl c5;have aa:Ext w5 w7:=c5 w5 c6 cr;have ay:=a5.trans aa;have am:=a2.ext aa;refine ρ ?_;refine ldW co ?_;refine ρ ?_;refine cl start_any ?_;rintro cu w8 ⟨cq,az⟩;refine ρ ?_;refine cl (next_any (am.ext az) cq (by rw [limbs_0];decide)) ?_;rintro u w9 ⟨c4,dw,A1,c1,di,rfl,aj,ch,cn,dt,_⟩;have a9:=az.trans c4;have ax:=ay.trans a9;have ak:=am.ext a9;refine ρ ?_;refine alc zCur ?_;intro df bv bg a1 bq;obtain ⟨Q1,q1,rfl⟩:=aj.parts;refine ρ ?_;refine stW bq ?_;intro c0 ag d0 bf;have G:Ext w9 c0:=bf w9 bg a1;refine ρ ?_;refine ldW ag ?_;refine ρ ?_;refine cl (next_any (ak.ext G) (aj.ext G) (nL (limbs_s (by decide)) (by decide))) ?_;rintro u bz ⟨ab,dv,A2,c2,dh,rfl,ai,cg,bm,dq,_⟩
 obtain ⟨Q2,q2,rfl⟩:=ai.parts;have U:=ag.ext ab;refine ρ ?_;refine stW U ?_;intro a3 af bs be;have Z:GrN (λk=>k=bv) bz a3:=GrN.by bs λk hk=>by injection hk with hk;exact hk.symm
 have a8:Ext w9 a3:=be w9 (G.trans ab) a1;have au:=(ai.off U no_u32) a3 Z;have bj:=(rowOff cg U no_str) a3 Z;refine ρ ?_;refine ldW af ?_;refine ρ ?_;refine cl (prev_any (ak.ext a8) au (nL (limbs_s (by decide)) (by decide))) ?_;rintro u bw ⟨J,du,A3,c3,dg,rfl,ah,ce,cm,dn,_⟩;obtain ⟨Q3,q3,rfl⟩:=ah.parts;have C:=af.ext J;refine ρ ?_;refine stW C ?_;intro D bp br bd;have j:GrN (λk=>k=bv) bw D:=GrN.by br λk hk=>by injection hk with hk;exact hk.symm
 have a7:Ext w9 D:=bd w9 (a8.trans J) a1;have ar:=(ah.off C no_u32) D j;have bi:=(rowOff ce C no_str) D j;have O:=(rowOff (Rd.ext bj J) C no_str) D j;have aq:RdR D A1 (nR 1 2):=Rd.ext ch a7;refine ρ ?_;refine cl (num44_any 1 _) ?_;rintro _ de ⟨rfl,bc⟩;refine ρ ?_;refine cl (num44_any 2 _) ?_;rintro _ dd ⟨rfl,bb⟩;refine ρ ?_;refine bsl (bs2V _ _) ?_;intro db dz ba d2 bo;have aw:=(bc.trans bb).trans ba;refine ρ ?_;refine cl (Xxt (a:=nR 1 2) ⟨A1,c1,rfl,cn,by decide,Rd.ext aq aw⟩ (litRow (r:=nR 1 2) bo (by decide))) ?_;rintro _ da ⟨rfl,b9⟩;rw [decide_eq_true rfl];refine ρ ?_;refine cl (num44_any 1 _) ?_;rintro _ d9 ⟨rfl,b8⟩;refine ρ ?_;refine cl (num44_any 3 _) ?_;rintro _ d8 ⟨rfl,b7⟩;refine ρ ?_;refine bsl (bs2V _ _) ?_;intro d7 dx b5 d1 bn;have av:=((aw.trans b9).trans (b8.trans b7)).trans b5;refine ρ ?_;refine cl (Xxt (a:=nR 1 3) ⟨A2,c2,rfl,bm,by decide,Rd.ext O av⟩ (litRow (r:=nR 1 3) bn (by decide))) ?_
 rintro _ d6 ⟨rfl,b4⟩;rw [decide_eq_true rfl];have ap:=av.trans b4;refine ρ ?_;refine cl (Xxt (a:=nR 1 3) (b:=nR 1 3) ⟨A3,c3,rfl,cm,by decide,Rd.ext bi ap⟩ ⟨A2,c2,rfl,bm,by decide,Rd.ext O ap⟩) ?_;rintro _ d5 ⟨rfl,i⟩;rw [decide_eq_true rfl];have ao:=ap.trans i;refine ρ ?_;refine ldW (bp.ext ao) ?_;refine ρ ?_;refine cl (pos_any (ar.ext ao) (nL (limbs_s (by decide)) (by decide))) ?_;rintro pv d4 ⟨cj,b2⟩;refine ρ ?_;refine cl (is44_any (n:=1) cj (by decide)) ?_;rintro _ d3 ⟨rfl,b1⟩;refine ρ ?_;exact Jjr ⟨rfl,(ax.trans a7).trans ((ao.trans b2).trans b1)⟩
open Go.RowKit Pl Go.Wk
theorem ixA_zero{B0:Nat}{w:World}(h:TB B0 w): IxA w (.agg #[.slice none 0 0,.slice none 0 0,.slice none 0 0,.slice none 0 0,.slice none 0 0]) 0 [] (λ_=>0) (λ_=>0) (λ_=>[]) 0 []:=by
 refine ⟨⟨B0,h⟩,⟨⟨none,0,none,0,none,0,none,0,.slice none 0 0,[],[],rfl,Nat.le_refl _,Nat.le_refl _,Rd.nil,Rd.nil,Rd.nil,Rd.nil,NatV.nil _,λv j=>by omega⟩,rfl,by omega⟩,?_,λh=>absurd rfl h,λv b i=>by cases i⟩;exact ⟨rfl,λ_ _=>rfl,λh=>absurd rfl h,λh=>absurd rfl h,λh=>absurd rfl h,λv k=>Nat.zero_le _,λv k=>Nat.zero_le _,(λv b i=>by cases i),by omega,λv j=>by omega⟩
theorem CuV.zero{w:World}{A B C D E:Option Addr}{a b c d e a' b' c' d' e':Nat}{cu:Value}{st:Nat}(h:CuV w (.agg #[.slice A a a',.slice B b b',.slice C c c',.slice D d d',.slice E e e']) cu 0 st):
  ∃ Q q,cu=.agg #[.slice A a a',.slice B b b',.slice C c c',.slice D d d',.slice E e e',.slice Q 0 q,.int .i64 (st:Int)]:=by
 obtain ⟨Q,q,i⟩:=h.parts;rw [limbs_0]at i;exact ⟨Q,q,i⟩
theorem cuZero(w:World)(Q:Option Addr)(q:Nat): CuV w (.agg #[.slice none 0 0,.slice none 0 0,.slice none 0 0,.slice none 0 0,.slice none 0 0]) (.agg #[.slice none 0 0,.slice none 0 0,.slice none 0 0,.slice none 0 0,.slice none 0 0,.slice Q 0 q,.int .i64 0]) 0 0 :=
 ⟨none,none,none,none,none,0,0,0,0,0,0,0,0,0,0,.slice Q 0 q,rfl,rfl,Q,q,by rw [limbs_0];rfl,by rw [limbs_0];simp,by rw [limbs_0];simp,by rw [limbs_0];exact ⟨rfl,λh=>by simp [Nc]at h⟩⟩
set_option linter.constructorNameAsVariable false in
theorem walkNone_any{B0:Nat}{w:World}{n:Int}(hTB:TB B0 w)(hn:0<=n/\n<=255): Ret Tryz.prog 10 [.int .u8 n] w λu w'=>u=.bool true/\Ext w w':=by
 refine Jjc Tryz.func10 Tryz.ntmps10 rfl (by kernel_rfl) rfl ?_;refine ρ ?_;refine alc zCur ?_;intro w1 b ai am aq;obtain ⟨m,hm,au⟩:=tmod_is (n:=4) hn.1 (by decide);rw [show ((4:Nat):Int)=4 from rfl]at hm;refine ρ ?_;refine Jqw (fun (i:Nat)=>[(0,.int .u8 n),(3,.pointer (some ⟨b,0,none⟩)),(4,.int .i64 (i:Int))])
  (λi w'=>i<=m/\Ext w w'/\∃ Q q,Blk w' b 87 [.slice none 0 0,.slice none 0 0,.slice none 0 0,.slice none 0 0,.slice none 0 0,.slice Q 0 q,.int .i64 0]) (λi=>4-i) 0 sB ⟨Nat.zero_le _,ai,none,0,aq⟩ ?_
 rintro i w2 ⟨hi,G,Q,q,a4⟩;refine ρ ?_;refine Go.Wk.rem (b:=4) (by decide) ?_;rw [hm];refine ρ ?_;rw [Qsm (z:=(m:Int)) (by omega)];refine ci (λh=>?_) (λh=>?_)
 ·have li:i<m:=by have:=oT h;omega
  clear h;refine ρ ?_;refine ldW a4 ?_;refine ρ ?_;refine cl (next_any (ixA_zero (hTB.ext G)) (cuZero w2 Q q) (by rw [limbs_0];decide)) ?_;rintro u w3 ⟨ah,h3⟩;simp only [List.getElem?_nil]at h3;obtain ⟨cu,rfl,a2⟩:=h3;obtain ⟨Q1,q1,rfl⟩:=a2.zero;refine ρ ?_;refine alc zCur ?_;intro w4 b4 ag ak ap;refine ρ ?_;refine stW ap ?_;intro w5 ao aw af;have a7:Ext w3 w5:=af w3 ag ak;have U:=ah.trans a7;refine ρ ?_;refine ldW ao ?_;refine ρ ?_;refine cl (prev_any (ixA_zero (hTB.ext (G.trans U))) (cuZero w5 Q1 q1) (by rw [limbs_0];decide)) ?_;rintro u w6 ⟨ae,h6⟩;simp only [if_true]at h6;obtain ⟨cu,rfl,a2⟩:=h6;obtain ⟨Q2,q2,rfl⟩:=a2.zero;refine ρ ?_;refine alc zCur ?_;intro w7 b7 ad aj an;refine ρ ?_;refine stW an ?_;intro w8 a3 av ac;have a6:Ext w6 w8:=ac w6 ad aj;have O:=(U.trans ae).trans a6;refine ρ ?_;refine ldW a3 ?_;refine ρ ?_;refine cl (pos_any (cuZero w8 Q2 q2) (by rw [limbs_0];decide)) ?_;rintro pv w9 ⟨a1,Z⟩
  refine ρ ?_;refine cl (is44_any (n:=0) a1 (by decide)) ?_;rintro _ a5 ⟨rfl,C⟩;rw [decide_eq_true rfl];have J:=Z.trans C;refine ρ ?_;refine ldW (a3.ext J) ?_;refine ρ ?_;refine cl (steps_any (cuZero a5 Q2 q2)) ?_;rintro _ ab ⟨rfl,o⟩;have j:=J.trans o;refine ρ ?_;refine ldW (a3.ext j) ?_;refine ρ ?_;refine stW ((a4.ext O).ext j) ?_;intro aa a9 ar a8;have D:Ext w aa:=a8 w ((G.trans O).trans j) am;refine ρ ?_;exact Jjx (i+1) sO ⟨by omega,D,Q2,q2,a9⟩ (by omega)
 ·clear h;refine ρ ?_;refine ldW a4 ?_;refine ρ ?_;refine cl (pos_any (cuZero w2 Q q) (by rw [limbs_0];decide)) ?_;rintro pv w9 ⟨a1,Z⟩;refine ρ ?_;refine cl (is44_any (n:=0) a1 (by decide)) ?_;rintro _ a5 ⟨rfl,C⟩;rw [decide_eq_true rfl];have D:=(G.trans Z).trans C;refine ρ ?_;refine cl (awake44_any (hTB.ext D)) ?_;rintro _ ab ⟨rfl,o⟩;refine ρ ?_;exact Jjr ⟨rfl,D.trans o⟩
end Go.Proofs.YtefpailelagbkaaGreatDoor
