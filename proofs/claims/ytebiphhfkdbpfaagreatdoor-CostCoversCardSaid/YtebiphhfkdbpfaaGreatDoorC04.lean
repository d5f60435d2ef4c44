/- Part 4. -/
import Derived.Test.YtebiphhfkdbpfaaGreatDoorC03
import Derived.Laws.CopyRow
set_option linter.unusedVariables false
set_option maxRecDepth 100000
set_option maxHeartbeats 40000000
namespace Go.Proofs.YtebiphhfkdbpfaaGreatDoor
open Go.RowKit Pl Go.Wk
attribute [local irreducible] WC WL QX WD WDB WP WN WG
variable {cs vars:List Nat}{b base c d k n s ty z:Nat}{w:World}
def Vb(vars:List Nat)(s:Nat): List Nat:=(List.range vars.length).filter λi=>s.testBit (vars.getD i 0)
def inS(vars:List Nat)(s:Nat): List Nat:=vars.filter λv=>s.testBit v
theorem Qwd(h:c∈Vb vars s): c<vars.length:=List.mem_range.1 (List.mem_filter.1 h).1
def Uz(vars:List Nat)(s k:Nat): List Nat:=(List.range k).filter λi=>s.testBit (vars.getD i 0)
theorem Jcj(vars:List Nat)(s k:Nat): Uz vars s (k+1)=Uz vars s k++if s.testBit (vars.getD k 0) then[k] else[]:=by grind [Uz,List.range_succ]
theorem Jbp(h:k<vars.length): inS (vars.take (k+1)) s=inS (vars.take k) s++if s.testBit (vars.getD k 0) then[vars.getD k 0] else[]:=by grind [inS,Qr,List.filter_cons_of_pos,List.filter_cons_of_neg]
theorem Jww(vars:List Nat)(s:Nat): ∀ k,k<=vars.length->(Uz vars s k).length=(inS (vars.take k) s).length
 | 0,_=>by simp[Uz,inS]
 | k+1,h=>by
  rw[Jcj,Jbp om,List.length_append,List.length_append,Jww vars s k om];split<;>rfl
theorem bs1Int''(z:Int)(w:World): (Instr.buildSlice 22 1 #[(0,.int .i64 z)]).run Tryz.prog w=.ok (.slice (some ⟨w.heap.size,0,none⟩) 1 1) (w.alloc (.cells [.int .i64 z].toArray 3)):=kr
theorem Qnf(a b:List Nat): nz (a++b)=nz a++nz b:=by simp[nz]
theorem Qsn(a b:List Int): Jb (a++b)=Jb a++Jb b:=by simp[Jb]
abbrev Qp(w:World)(base:Nat)(v:Value)(cs:List Nat): Prop:=w.ownsRow base 3 1 v cs.length (Jb (nz cs))
theorem apI{al:AL}{Q:Exit->Act->World->Prop}{ops:Array Oper}{rest:List Oper}{pos:String}{aft:Array Edge}{x y:Operand}{v:Value}(ho:Qp w base v cs)(hb:Blk w b 3 [.int .i64 (z:Int)])(hm:cs.length<=1100000)(hbase:base<=w.heap.size)(kk:∀ v' w',Qp w' base v' (cs++[z])->w.grownBy w' v.ownBlock->(∀ g,v'.ownBlock=some g->v.ownBlock=some g∨w.heap.size<=g)->WL Tryz.prog n ops Q rest ((d,v')::al) w')(hx:ev al x=some v:=by rfl)(hy:ev al y=some (.slice (some ⟨b,0,none⟩) 1 1):=by rfl)(hd:Nat.blt d n=true:=by rfl):
  WL Tryz.prog n ops Q (⟨some d,.call { callee:=.builtin .append,args:=#[x,y],argTypes:=#[22,22] },ty,pos,aft,none⟩::rest) al w:=by
 refine apb (base:=base) EI ho (hb.rd (n:=1) rfl) (λu j=>by rw[List.mem_singleton.1 j];rfl) (by unfold maxLen;omega) om hbase ?_ hx hy hd;intro v' w' i B hn;refine kk v' w' ?_ B hn;rw[Qp,List.length_append,Qnf,Qsn];exact i
theorem Xwm{t:V3}{rs:List Row}(hA:AtV w t ⟨nz vars,vars.length,rs⟩)(hs:s<4294967296)(hasc:Xm vars)(hlt:∀ v∈vars,v<32)(hlen:∀ r∈rs,r.length=vars.length)(hbig:rs.length<=65536):
  Ret Tryz.prog 117 [.agg t.cells.toArray,.int .u32 (s:Int)] w λu w'=>Ext w w'/\∃ t':V3,u=.tuple #[.agg t'.cells.toArray,.int .i64 0]/\∃ m,Off (λk=>k<w.heap.size) w' (λx=>AtV x t' ⟨nz (inS vars s),(inS vars s).length,m⟩)/\m.length<=65536/\(∀ x∈m,x∈rs.map (pmR (Vb vars s))) /\
   ((rs.length<=12∨Srt [] (rs.map (pmR (Vb vars s))))->Zn [] (rs.map (pmR (Vb vars s))) m):=by
 obtain⟨t1,t2,t3⟩:=t;obtain⟨⟨D,d,e1,hd,d7,ca⟩,e2,bb⟩:=id hA;simp only at e1 e2;subst e1;subst e2;obtain⟨ps,G,gc,_,c2,_⟩:=id bb;simp only at c2;subst c2;have d0:=Xw vars;have dh:=Jcs hasc hlt;refine Jz Tryz.func117 Tryz.ntmps117 rfl kr rfl ?_;refine ρ ?_;refine bx ?_;intro w1 b bz hb hB;refine ρ ?_;refine alc Yg ?_;intro w2 br bu dm bj;have bn:=hB.ext bu;have av:=bz.trans bu;have ah:Rd w 1 D (nz vars).length (Jb (nz vars)):=ca;clear ca hd d7;have mono:∀ i,1<=i->i<vars.length->vars.getD (i-1) 0<vars.getD i 0:=λi h1 h2=>by
  have:=List.pairwise_iff_getElem.1 hasc (i-1) i om h2 om;simpa [List.getD,List.getElem?_eq_getElem h2,List.getElem?_eq_getElem (show i-1<vars.length by omega)] using this
 have aw:∀ i,i<vars.length->vars.getD i 0<32:=λi hi=>hlt _ (getD_mem' 0 _ hi);refine ρ ?_;refine Js (fun (i:Nat)=>[(1,.int .u32 (s:Int)),(2,.pointer (some ⟨b,0,none⟩)),(4,.pointer (some ⟨br,0,none⟩)),(6,.int .i64 (i:Int))])
  (λi w'=>1<=i/\i<=1000/\Ext w2 w') (λi=>1000-i) 1 sB ⟨Nat.le_refl _,om,Ext.refl _⟩ ?_
 rintro i w3 ⟨d5,dl,ad⟩;have au:=bn.ext ad;refine ρ ?_;refine ld (au.at (i:=0) rfl) ?_;refine ρ ?_;refine ci (λh=>?_) (λh=>?_)
 .have li:i<vars.length:=by have:=oT h;omega
  clear h;have b5:Ext w3 w3.drew:=(Ext.refl w3).drew;have cp:=au.ext b5;have ap:=ah.ext ((av.trans ad).trans b5);refine ρ ?_;refine dr [(0,0),(0,1),(0,2),(0,3),(0,4),(0,5),(0,6),(0,7),(0,8),(0,9),(0,10),(0,11)] kr ?_;refine ρd ?_;refine dld (cp.at (i:=0) rfl) ?_;refine ρd ?_;refine dix (i-1) ap om ?_;refine ρd ?_;refine dld (ap.cell (Qs (show i-1<vars.length by omega))) ?_;refine ρd ?_;refine dld (cp.at (i:=0) rfl) ?_;refine ρd ?_;refine dix i ap om ?_;refine ρd ?_;refine dld (ap.cell (Qs li)) ?_;refine ρd ?_;refine ρ ?_;refine cf ?_ ?_
  .exact dF (by have:=mono i d5 li;omega)
  refine ρ ?_;exact Jp (i+1) sO ⟨om,om,ad.trans b5⟩ om
 clear h;refine ρ ?_;refine ld (au.at (i:=0) rfl) ?_;refine ρ ?_;refine Js (fun (i:Nat)=>[(1,.int .u32 (s:Int)),(2,.pointer (some ⟨b,0,none⟩)),(4,.pointer (some ⟨br,0,none⟩)),(36,.slice D (nz vars).length d),(37,.int .i64 ((nz vars).length:Int)),(38,.int .i64 (i:Int))])
  (λi w'=>i<=vars.length/\Ext w3 w') (λi=>vars.length-i) 0 sB ⟨Nat.zero_le _,Ext.refl _⟩ ?_
 rintro i w4 ⟨hi,am⟩;have ac:=(av.trans ad).trans am;have de:=au.ext am;refine ρ ?_;refine ci (λh=>?_) (λh=>?_)
 .have li:i<vars.length:=by have:=oT h;omega
  clear h;have ck:=ah.ext ac;refine ρ ?_;refine ix i ck om ?_;refine ρ ?_;refine ld (ck.cell (Qs li)) ?_;refine ρ ?_;refine cf ?_ ?_
  .exact dF (by have:=aw i li;omega)
  refine ρ ?_;exact Jp (i+1) sO ⟨om,am⟩ om
 have d6:i=vars.length:=by have:=oF h;omega
 clear h hi d6;have a7:Ext w4 w4.drew:=(Ext.refl w4).drew;have b2:=de.ext a7;refine ρ ?_;refine dr [(0,0),(0,1),(0,2),(0,3),(0,4),(1,5),(0,6)] kr ?_;refine ρd ?_;refine dld (b2.at (i:=0) rfl) ?_;refine ρd ?_;refine Qb (cs:=[.int .i64 (vars.length:Int),.slice G ps.length gc]) (b2.sub2 (i:=1) rfl rfl) ?_;refine ρd ?_;refine dcl (Jfm ((hA.ext (ac.trans a7)).rel)) ?_;rintro u w5 ⟨rfl,ba⟩;refine⟨ba,?_⟩;refine ρd ?_;refine ρ ?_;refine cf ?_ ?_
 .exact Jmb (by rw[d0])
 have ab:=(ac.trans a7).trans ba;have a5:Ext w2 w5:=((ad.trans am).trans a7).trans ba;refine ρ ?_;refine alc Yg ?_;intro w6 bq b7 dn co;have bm:=(bn.ext a5).ext b7;have bs:=ab.trans b7;have b1:=(bj.ext a5).ext b7;refine ρ ?_;refine ld (bm.at (i:=0) rfl) ?_;refine ρ ?_;refine Xf (fun (k:Nat) (vv vc:Value)=>[(1,.int .u32 (s:Int)),(2,.pointer (some ⟨b,0,none⟩)),(4,.pointer (some ⟨br,0,none⟩)),(9,.pointer (some ⟨bq,0,none⟩)),(10,vc),(59,.slice D (nz vars).length d),(60,.int .i64 ((nz vars).length:Int)),(61,.int .i64 (k:Int))])
  (λk vv vc w'=>k<=vars.length/\Ext w w'/\Blk w' b 82 [.slice D (nz vars).length d,.int .i64 (vars.length:Int),.slice G ps.length gc]/\Blk w' br 82 [.slice none 0 0,.int .i64 0,.slice none 0 0]/\Blk w' bq 82 [vv,.int .i64 0,.slice none 0 0] /\
   Qp w' w.heap.size vv (inS (vars.take k) s)/\Qp w' w.heap.size vc (Uz vars s k)/\∀ g,vv.ownBlock=some g->vc.ownBlock≠some g) (λk _ _=>vars.length-k) 0 (.slice none 0 0) (.slice none 0 0) sB
  ⟨Nat.zero_le _,bs,bm,b1,co,Xr _ _ _ _,Xr _ _ _ _,λg e=>(by cases e)⟩ ?_
 clear bm b1 co;rintro k vv vc w7 ⟨hk,a6,ar,a1,a3,a4,aa,af⟩;refine ρ ?_;refine ci (λh=>?_) (λh=>?_)
 .have lk:k<vars.length:=by have:=oT h;omega
  clear h;have cj:=ah.ext a6;have cb:=Jww vars s k om;have dk:(inS (vars.take k) s).length<=32:=by
   have:=List.length_filter_le (λv=>s.testBit v) (vars.take k);rw[List.length_take]at this;unfold inS;omega
  refine ρ ?_;refine ix k cj om ?_;refine ρ ?_;refine ld (cj.cell (Qs lk)) ?_;refine ρ ?_;refine Jqt (s:=s) (v:=vars.getD k 0) (by have:=aw k lk;omega) ?_;refine ρ ?_;refine ci (λh=>?_) (λh=>?_)
  .rw[Ip hs]at h;refine ρ ?_;refine ld (a3.at (i:=0) rfl) ?_;refine ρ ?_;refine bsl (bs1Int'' _) ?_;intro w8 b8 j dq dc;refine ρ ?_;refine apI (Jh a4 j) dc om (a6.trans j).size ?_;intro O w9 an a9 c6;have U:∀ {w':World} {cs:List Nat} {v:Value},Qp w' w.heap.size v cs->∀ g,v.ownBlock=some g->w.heap.size<=g/\g<w'.heap.size:=λho g y=>by
    obtain⟨_,_,_,_,hf⟩:=Jv ho;exact hf g y
   have ak:Ext w w9:=Ja (a6.trans j) a9 (λg y=>(U a4 g y).1);have a2:=(a3.ext j).grown a9 ((a3.ext j).ne_own (Jh a4 j) rfl);have aq:=(ar.ext j).grown a9 ((ar.ext j).ne_own (Jh a4 j) rfl);have az:=(a1.ext j).grown a9 ((a1.ext j).ne_own (Jh a4 j) rfl);have bg:Qp w9 w.heap.size vc (Uz vars s k):=Qj (Jh aa j) (GrN.by a9 λg y=>y) (λg y e=>af g e y);have ay:∀ g,O.ownBlock=some g->vc.ownBlock≠some g:=λg y e=>by
    rcases c6 g y with h'|h'
    .exact af g h' e
    have:=(U aa g e).2;have:=j.size;omega
   have df:O.oneCell'=true:=by obtain⟨_,_,e,_⟩:=Jv an;rw[e];rfl
   refine ρ ?_;refine sto (p:=⟨bq,0,none⟩) (a2.cell 0) (a2.frozen _) ?_ (hv:=df);have bc:w9.grownBy (w9.setCell ⟨bq,0,none⟩ O) (some bq):=Qfh _;have cn:=a2.set 0 O;have bt:Ext w (w9.setCell ⟨bq,0,none⟩ O):=ak.setCell (by simp only;have:=ab.size;omega) _;have c1:Qp (w9.setCell ⟨bq,0,none⟩ O) w.heap.size O (inS (vars.take k) s++[vars.getD k 0]):=Qj an (GrN.by bc λg y=>y) (λg y e=>by injection e with e;subst e;exact a2.ne_own an rfl y.symm);have be:Qp (w9.setCell ⟨bq,0,none⟩ O) w.heap.size vc (Uz vars s k):=Qj bg (GrN.by bc λg y=>y) (λg y e=>by injection e with e;subst e;exact a2.ne_own bg rfl y.symm);have b3:∀ {x:Nat},x<w5.heap.size->x≠bq:=λh e=>by omega
   have db:Blk (w9.setCell ⟨bq,0,none⟩ O) b 82 _:=aq.far (b3 (by have:=bn.lt;have:=a5.size;omega)) _;have cm:Blk (w9.setCell ⟨bq,0,none⟩ O) br 82 _:=az.far (b3 (by have:=bj.lt;have:=a5.size;omega)) _;generalize w9.setCell ⟨bq,0,none⟩ O=aj at *
   clear a2 aq az bg ak a9 bc an c6;refine ρ ?_;refine bsl (bs1Int'' _) ?_;intro b4 ds J dj cq;refine ρ ?_;refine apI (Jh be J) cq om (bt.trans J).size ?_;intro bp a8 cc Z c7;have ae:Ext w a8:=Ja (bt.trans J) Z (λg y=>(U be g y).1);have nb:∀ {g:Nat} {cs:List Value},Blk aj g 82 cs->Blk a8 g 82 cs:=λh=>(h.ext J).grown Z ((h.ext J).ne_own (Jh be J) rfl);refine ρ ?_;refine Qn (k+1) O bp sO ⟨om,ae,nb db,nb cm,nb cn,?_,?_,λg y e=>?_⟩ om
   .rw[Jbp lk,if_pos h];exact Qj (Jh c1 J) (GrN.by Z λg y=>y) (λg y e=>ay g y e)
   .rw[Jcj,if_pos h];exact cc
   rcases c7 g e with h'|h'
   .exact ay g y h'
   have:=(U c1 g y).2;have:=J.size;omega
  rw[Ip hs]at h;have hf:¬ s.testBit (vars.getD k 0)=true:=by rw[h];simp
  refine ρ ?_;refine Qn (k+1) vv vc sO ⟨om,a6,ar,a1,a3,?_,?_,af⟩ om
  .rw[Jbp lk,if_neg hf,List.append_nil];exact a4
  rw[Jcj,if_neg hf,List.append_nil];exact aa
 have d3:k=vars.length:=by have:=oF h;omega
 subst d3;clear h;rw[List.take_length]at a4;have d8:Uz vars s vars.length=Vb vars s:=rfl;rw[d8]at aa;obtain⟨VA,cx,bo,cy,_⟩:=Jv a4;obtain⟨CA,dg,cw,d9,_⟩:=Jv aa;have bf:(Vb vars s).length<=32:=by
  have:=List.length_filter_le (λi=>s.testBit (vars.getD i 0)) (List.range vars.length);rw[List.length_range]at this;unfold Vb;omega
 have d4:(inS vars s).length<=32:=by
  have:=List.length_filter_le (λv=>s.testBit v) vars;unfold inS;omega
 refine ρ ?_;refine lds (cs:=[.int .i64 (vars.length:Int),.slice G ps.length gc]) (ar.sub2 (i:=1) rfl rfl) ?_;refine ρ ?_;have ao:IntsV w7 vc (nz (Vb vars s)):=by
  refine⟨CA,dg,by rw[Xw];exact cw,by rw[Xw];exact d9,by rw[Xw];omega,?_⟩;rw[Xw];have:=aa;rw[cw]at this;exact Rd.own this
 refine cl (Jfl (cs:=Vb vars s) ((hA.ext a6).rel) ao hlen (λc hc=>Qwd hc) bf hbig) ?_;rintro u w8 ⟨j,rv,rfl,⟨z,RB,rm,rd,rfl⟩,m,c5,d2,d1,c4⟩;refine ρ ?_;refine alc Yf ?_;intro w9 b9 ak da aq;refine ρ ?_;refine stb (cs':=[.int .i64 z,.slice RB rm rd]) aq ?_ Vq;intro aj cr di bw;have B:Ext w8 aj:=bw w8 ak da;refine ρ ?_;refine ldW cr ?_;have ai:=(a3.ext j).ext B;refine ρ ?_;refine stB (o:=1) (us:=[.int .i64 z,.slice RB rm rd]) ai (by simp) Vq ?_;intro b4 bl ag;refine ρ ?_;refine ldW bl ?_;have cg:w.heap.size<=bq:=by have:=ab.size;omega
 have b6:Ext w b4:=Jbs ((a6.trans j).trans B) ag cg;have ce:br≠bq:=by have:=bj.lt;have:=a5.size;omega
 have bi:Blk b4 br 82 _:=((a1.ext j).ext B).grown ag (λe=>by injection e with e;exact ce e);refine ρ ?_;refine stb (cs':=[vv,.int .i64 z,.slice RB rm rd]) bi ?_ (λu hu=>by
  simp only[List.mem_cons,List.not_mem_nil,or_false]at hu;rcases hu with rfl|rfl|rfl
  .rw[bo];rfl
  .rfl
  rfl)
 intro a8 bh Z _;refine ρ ?_;have cd:w.heap.size<=br:=by have:=bz.size;omega
 have ae:Ext w a8:=Jbs b6 Z cd;refine Xh bh ⟨ae,(vv,.int .i64 z,.slice RB rm rd),rfl,m,?_,d2,d1,c4⟩;have c8:GrN (λk=>k=bq∨k=br) aj a8:=(GrN.by ag λk e=>.inl (by injection e with e;exact e.symm)).trans (GrN.by Z λk e=>.inr (by injection e with e;exact e.symm));have ch:bq<w7.heap.size/\br<w7.heap.size:=⟨a3.lt,a1.lt⟩;intro w' c9;have bd:GrN (λk=>k<w7.heap.size) w8 w':=((GrN.ext B).trans (c8.mono λk _ hk=>by rcases hk with rfl|rfl;(exact ch.1);exact ch.2)).trans (c9.mono λk _ hk=>nM hk a6.size);obtain⟨rv,cu,cz⟩:=c5 w' bd;have ax:(Value.int .i64 z)=.int .i64 ((Vb vars s).length:Int)/\Value.slice RB rm rd=rv:=by
  simp only[Value.agg.injEq,Array.mk.injEq,List.cons.injEq,and_true]at cu;exact cu
 have c0:Qp w' w.heap.size vv (inS vars s):=by
  have h1:=Jh (Jh a4 j) B;have h2:Qp a8 w.heap.size vv (inS vars s):=Qj h1 c8 λg y hk=>by
   rcases hk with rfl|rfl
   .exact ai.ne_own h1 rfl y.symm
   exact((a1.ext j).ext B).ne_own h1 rfl y.symm
  refine Qj h2 c9 λg y hk=>?_;obtain⟨_,_,_,_,hf⟩:=Jv h2;have:=(hf g y).1;omega
 have cb:(Vb vars s).length=(inS vars s).length:=by
  have:=Jww vars s vars.length (Nat.le_refl _);rw[List.take_length]at this;exact this
 refine⟨⟨VA,cx,by rw[Xw];exact bo,by rw[Xw];exact cy,by rw[Xw];omega,?_⟩,?_,?_⟩
 .rw[Xw];rw[bo]at c0;exact Rd.own c0
 .simp only;rw[<-cb];exact ax.1
 simp only;rw[ax.2];exact cz
open Go.RowKit Pl Go.Wk
variable {nums vars:List Nat}{ls rs:List Row}{ar b s:Nat}{w:World}
def RowG(w:World)(cs:List Value)(z:Row): Prop:=∃ v,cs=[v]/\RowV w v z
theorem RowG.ext{w w':World}{cs:List Value}{z:Row}(h:RowG w cs z)(hx:Ext w w'): RowG w' cs z:=by
 obtain⟨v,e,i⟩:=h;exact⟨v,e,i.ext hx⟩
theorem Jrw: ∀(ps:List (List Value×Row)) (w:World),(∀ p∈ps,RowG w p.1 p.2)->∃ qs:List Pr,qs.map (·.2)=ps.map (·.2)/\qs.map (·.1)=Jm ps/\qs.length=ps.length/\∀ q∈qs,RowV w q.1 q.2
 | [],w,_=>⟨[],rfl,rfl,rfl,λq hq=>by cases hq⟩
 | p::ps,w,h=>by
  obtain⟨qs,h1,h2,h3,h4⟩:=Jrw ps w λq hq=>h q (List.mem_cons_of_mem _ hq);obtain⟨v,e,hr⟩:=h p (mC ..);refine⟨(v,p.2)::qs,by simp[h1],?_,by simp[h3],λq hq=>?_⟩;repeat grind [Jm,List.mem_cons.1]
theorem Qgb{v:Value}(h:GV 1 RowG w v ls): RowsV w v ls:=by
 obtain⟨ps,A,c,e,y,u,j,i,D⟩:=h;obtain⟨B,Z,U,O,J⟩:=Jrw ps w λp G=>(D p G).2;rw[<-O]at y u j i;exact⟨B,A,c,by rw[e,Z],y,u,j,by rw[U];exact i,J⟩
def YM(b:Nat)(base:Nat)(l:List Row)(w:World): Prop:=b<base/\∃ v,Blk w b 78 [v]/\OwnG 85 1 RowG w base v l
theorem Qpx(hb:b<s): YZ s (.func (.func 119) #[] #[.pointer (some ⟨b,0,none⟩)]) (λk=>k=b) (YM b):=by
 refine⟨λbase l w w' h hg=>?_,_,_,_,rfl,λbase l w w1 vr z B h hx hr hl=>?_⟩
 .obtain⟨y,v,hB,hO⟩:=h;exact⟨y,v,Jr hB hg (λe=>om),hO.gr hg λk U=>U.2⟩
 obtain⟨y,v,hB,hO⟩:=h;have J:=hB.ext hx;have D:=hO.ext hx;obtain⟨RA,rn,rc,a5,_,_,_⟩:∃ A n c,vr=.slice A n c/\True/\True/\True:=by obtain⟨A,c,e,_⟩:=hr;exact⟨A,_,c,e,trivial,trivial,trivial⟩
 refine Jz Tryz.func119 Tryz.ntmps119 rfl kr rfl ?_;refine ρ ?_;refine ld (J.at (i:=0) rfl) ?_;refine ρ ?_;refine bsl (cs:=[vr]) (λw=>Xkc vr w RA rn rc a5) ?_;intro w2 b2 j ae aa;obtain⟨_,_,_,_,hf⟩:=D.form;have hΦ:Off (Yp base v) w2 (λu=>RowG u [vr] z):=((hr.off.mono λk U h=>by
  rcases h with h|h
  .omega
  obtain⟨_,_,_,_,a8⟩:=hO.form;exact(a8 k h).2).imp λu h=>⟨vr,rfl,h⟩).ext j
 refine ρ ?_;refine apG ER (Φ:=RowG) (D.ext j) aa rfl (λu hu=>by rw[List.mem_singleton.1 hu,a5];rfl) hΦ om om (nL B (hx.trans j).size) ?_;intro v3 O a3 a2 ab;obtain⟨A3,c3,e3,ad,ac⟩:=a3.form;have Z:GrN (λk=>k=b∨base<=k) w1 O:=(GrN.ext j).trans (GrN.by a2 λk ek=>.inr (hf k ek).1);have a6:some b≠v.ownBlock:=by
  obtain⟨ps,_,ho,_⟩:=D;exact J.ne_own ho rfl
 have G:Blk O b 78 [v]:=(J.ext j).grown a2 a6;refine ρ ?_;refine sto (p:=⟨b,0,none⟩) (G.cell 0) (G.frozen _) ?_ (hv:=by rw[e3];rfl);have a4:=G.set 0 v3;have a1:GrN (λk=>k=b) O (O.setCell ⟨b,0,none⟩ v3):=GrN.set _ rfl;refine ρ ?_;have a7:(l++[z]).length=l.length+1:=by simp
 rw[a7]at e3;refine ld (v:=.slice A3 (l.length+1) c3) ((a4.at (i:=0) rfl).trans (by simp[e3])) ?_;refine ρ ?_;have a9:OwnG 85 1 RowG (O.setCell ⟨b,0,none⟩ v3) base v3 (l++[z]):=a3.gr a1 λk U=>by omega
 refine Jq ⟨?_,⟨y,v3,a4,a9⟩,Z.trans (a1.mono λk _ U=>.inl U)⟩;rw[decide_eq_true (show((l.length+1:Nat):Int)<=65536 by omega)]
theorem Xwb(z:Int)(A:Option Addr)(n c:Nat)(w:World): (Instr.build 82 #[(1,.agg #[.int .i64 z,.slice A n c])]).run Tryz.prog w=.ok (.agg #[.slice none 0 0,.int .i64 z,.slice A n c]) w:=kr
theorem Qpz{Na:Option Addr}{t:V3}(hA:AtV w t ⟨nz vars,ar,rs⟩)(hB:Blk w b 22 [.slice Na nums.length nums.length])(hN:Rd w 1 Na nums.length (Jb (nz nums)))(hlt:∀ v∈vars,v<nums.length)(hl:vars.length<=1000):
  Ret Tryz.prog 116 [.agg t.cells.toArray,.pointer (some ⟨b,0,none⟩)] w λu w'=>Ext w w'/\∃ v1,u=.agg #[v1,t.2.1,t.2.2]/\Off (λk=>k<w.heap.size) w' (λx=>IntsV x v1 (nz (vars.map λv=>nums.getD v 0))):=by
 obtain⟨t1,t2,t3⟩:=t;obtain⟨⟨D,d,e1,hd,bc,am⟩,e2,ac⟩:=id hA;simp only at e1 e2;subst e1;subst e2;obtain⟨ps,G,gc,_,ah,_⟩:=id ac;simp only at ah;subst ah;have bl:=Xw vars;have ak:Rd w 1 D (nz vars).length (Jb (nz vars)):=am;clear am hd bc;refine Jz Tryz.func116 Tryz.ntmps116 rfl kr rfl ?_;refine ρ ?_;refine bx ?_;intro w1 b1 aa br ay;refine ρ ?_;refine alc Yg ?_;intro w2 b2 a5 bq aw;refine ρ ?_;refine lds (cs:=[.int .i64 (ar:Int),.slice G ps.length gc]) ((ay.ext a5).sub2 (i:=1) rfl rfl) ?_;refine ρ ?_;refine bld (Xwb _ _ _ _ _) ?_;refine ρ ?_;refine alc Yg ?_;intro w3 b3 b7 be bi;refine ρ ?_;refine stb (cs':=[.slice none 0 0,.int .i64 (ar:Int),.slice G ps.length gc]) bi ?_ (λu hu=>by
  simp only[List.mem_cons,List.not_mem_nil,or_false]at hu;rcases hu with rfl|rfl|rfl<;>rfl)
 intro w4 bh bo b5;have a3:Ext w2 w4:=b5 w2 b7 be;have ae:Ext w w4:=(aa.trans a5).trans a3;have ax:=(ay.ext a5).ext a3;have av:=aw.ext a3;refine ρ ?_;refine ld (ax.at (i:=0) rfl) ?_;refine ρ ?_;refine Qq (fun (k:Nat) (vv:Value)=>[(1,.pointer (some ⟨b,0,none⟩)),(3,.pointer (some ⟨b2,0,none⟩)),(4,.pointer (some ⟨b3,0,none⟩)),(11,.slice D (nz vars).length d),(12,.int .i64 ((nz vars).length:Int)),(13,.int .i64 (k:Int))])
  (λk vv w'=>k<=vars.length/\Ext w w'/\Blk w' b2 82 [.slice none 0 0,.int .i64 0,.slice none 0 0]/\Blk w' b3 82 [vv,.int .i64 (ar:Int),.slice G ps.length gc]/\Qp w' w.heap.size vv ((vars.take k).map λv=>nums.getD v 0)) (λk _=>vars.length-k) 0 (.slice none 0 0) sB
  ⟨Nat.zero_le _,ae,av,bh,Xr _ _ _ _⟩ ?_
 rintro k vv w5 ⟨hk,a1,Z,a9,a2⟩;refine ρ ?_;refine ci (λh=>?_) (λh=>?_)
 .have lk:k<vars.length:=by have:=oT h;omega
  clear h;have ap:=ak.ext a1;have af:=hlt _ (getD_mem' 0 _ lk);obtain⟨own,J⟩:∃ own,own=vv.ownBlock:=⟨_,rfl⟩;have aj:∀ j,own=some j->w.heap.size<=j:=λj ej=>by
   obtain⟨_,_,_,_,hf⟩:=Jv a2;exact(hf j (by rw[<-J];exact ej)).1
  have bn:((vars.take k).map λv=>nums.getD v 0).length<=1000:=by simp;omega
  refine ρ ?_;refine ix k ap om ?_;refine ρ ?_;refine ld (ap.cell (Qs lk)) ?_;refine ρ ?_;refine drN (one own) 8 [(0,0),(0,1),(0,2),(0,3),(0,4),(0,5),(1,6),(1,7),(0,8),(2,9)] kr ?_;have B:Ext w5 w5.drew:=(Ext.refl w5).drew;have O:=a9.ext B;have bf:=hB.ext (a1.trans B);have ao:=hN.ext (a1.trans B);have a6:=Jh a2 B;have n3:¬ one own b3:=λe=>O.ne_own a6 rfl (by rw[<-J];exact e.symm);have a8:∀ {g:Nat},g<w.heap.size->¬ one own g:=λhg e=>by have:=aj _ e;omega
  refine ρn ?_;refine nld (Qy (O.at (i:=0) rfl) n3) ?_;refine ρn ?_;refine nld (Qy (bf.at (i:=0) rfl) (a8 hB.lt)) ?_;refine ρn ?_;refine nix (vars.getD k 0) ao af ?_;refine ρn ?_;refine nld (λw' hg=>(Ud ao hg (λh0 ad e=>a8 (by
   obtain⟨bs,e',ai,_⟩:=hN.2 h0;rw[e]at e';injection e' with e';subst e';exact ai))).cell (Qs af)) ?_
  refine ρn ?_;refine nop ?_;refine bsl (bs1Int'' _) ?_;intro w6 b6 y bp bg;refine ρ ?_;refine Qg (GrN.ext y) ?_;refine nop ?_;refine apI (Jh a6 y) bg om (((a1.trans B).trans y).size) ?_;intro a4 w7 ab hg7 bm;refine ρ ?_;refine Qg (GrN.by hg7 λj ej=>by rw[<-J]at ej;exact ej) ?_;refine ρn ?_;refine Xu ?_;have U:=(O.ext y).grown hg7 ((O.ext y).ne_own (Jh a6 y) rfl);have aq:=((Z.ext B).ext y).grown hg7 (((Z.ext B).ext y).ne_own (Jh a6 y) rfl);have b4:Ext w w7:=Ja ((a1.trans B).trans y) hg7 (λj ej=>aj j (by rw[J];exact ej));have bj:a4.oneCell'=true:=by obtain⟨_,_,e,_⟩:=Jv ab;rw[e];rfl
  refine sto (p:=⟨b3,0,none⟩) (U.cell 0) (U.frozen _) ?_ (hv:=bj);have bb:GrN (λk=>k=b3) w7 (w7.setCell ⟨b3,0,none⟩ a4):=GrN.set _ rfl;have bd:w.heap.size<=b3:=by have:=(aa.trans a5).size;omega
  refine ω5 ?_;refine Uh ?_;refine ρn ?_;refine ρ ?_;refine Ju (k+1) a4 sO ⟨om,b4.setCell bd _,aq.far (by simp only;have:=aw.lt;omega) _,U.set 0 a4,?_⟩ om;rw[Qr 0 lk,List.map_append];exact Qj ab bb (λg eg e=>by subst e;exact U.ne_own ab rfl eg.symm)
 have ba:k=vars.length:=by have:=oF h;omega
 subst ba;clear h;rw[List.take_length]at a2;obtain⟨VA,az,a7,ag,b8⟩:=Jv a2;rw[List.length_map]at a7 ag;refine ρ ?_;refine ldW a9 ?_;refine ρ ?_;refine stb (cs':=[vv,.int .i64 (ar:Int),.slice G ps.length gc]) Z ?_ (λu hu=>by
  simp only[List.mem_cons,List.not_mem_nil,or_false]at hu;rcases hu with rfl|rfl|rfl
  .rw[a7];rfl
  .rfl
  rfl)
 intro w6 au hg6 y;refine ρ ?_;have an:w.heap.size<=b2:=by have:=aa.size;omega
 refine Vp au ⟨y w a1 an,vv,rfl,?_⟩;have b9:Qp w6 w.heap.size vv (vars.map λv=>nums.getD v 0):=Qj a2 (GrN.by hg6 λg eg=>eg) (λg eg e=>by injection e with e;subst e;exact Z.ne_own a2 rfl eg.symm);refine(Jkq b9 (λg eg hk=>by have:=(b8 g eg).1;omega)).imp λx h=>⟨VA,az,by rw[Xw,List.length_map];exact a7,by rw[Xw,List.length_map];exact ag,by rw[Xw,List.length_map];omega,?_⟩;rw[a7]at h;rw[Xw,List.length_map];simp only[List.length_map]at h;exact Rd.own h
end Go.Proofs.YtebiphhfkdbpfaaGreatDoor
namespace Go.Proofs.YtebiphhfkdbpfaaGreatDoor
open Pl Go.Wk
variable {vars vs:List Nat}{k m n s u v:Nat}
def bk(s v:Nat): List Nat:=(List.range v).filter λu=>s.testBit u
theorem bk_mem: u∈bk s v↔u<v/\s.testBit u=true:=by simp[bk]
theorem Jmd(s v:Nat): bk s (v+1)=bk s v++if s.testBit v then[v] else[]:=by grind [bk,List.range_succ]
theorem Jqd(s v:Nat): Xm (bk s v):=List.Pairwise.sublist List.filter_sublist List.pairwise_lt_range
theorem Jmf(s v:Nat): (bk s v).length<=v:=by
 have:=List.length_filter_le (λu=>s.testBit u) (List.range v);rw[List.length_range]at this;exact this
theorem Qqc(s n:Nat): ∀ u,u<=n->lv (bk s n) u=(bk s u).length
 | 0,_=>by rw[Jwc];rfl
 | u+1,h=>by
  have ih:=Qqc s n u om;rw[Jmd,List.length_append,<-ih];by_cases hb:s.testBit u=true
  .rw[if_pos hb,(Yj (Jqd s n) (bk_mem.2 ⟨om,hb⟩)).1];rfl
  rw[if_neg hb,Jjt (λh'=>hb (bk_mem.1 h').2)];rfl
theorem Jgs(ha:Xm vs)(hk:k<vs.length): lv vs (vs.getD k 0)=k:=by
 obtain⟨_,i,j⟩:=Yj ha (getD_mem' 0 vs hk);exact Qjc (Qvs ha) i hk ((Ql 0 vs i).symm.trans (j.trans (Ql 0 vs hk)))
theorem Jzn(hs:s<2^n)(h:s.testBit u=true): u<n:=by grind [Nat.lt_or_ge,Nat.testBit_lt_two_pow,Nat.lt_of_lt_of_le,Nat.pow_le_pow_right]
def Vk(s v:Nat): List Nat:=(List.range 32).map λu=>if u<v/\s.testBit u=true then(bk s u).length else 0
theorem Jxn(s v:Nat): (Vk s v).length=32:=by simp[Vk]
theorem Qng(hu:u<32)(h:s.testBit u=true): (Vk s 32).getD u 0=lv (bk s 32) u:=by grind [Qqc,Vk,List.getD]
theorem Jtx(hv:v<32): Vk s (v+1)=if s.testBit v then(Vk s v).set v (bk s v).length else Vk s v:=by
 apply List.ext_getElem?
 grind [Jxn,Vk,List.getElem?_range,Nat.lt_or_ge]
def rnm(vars:List Nat)(s:Nat): List Nat:=(inS vars s).map λv=>lv (bk s 32) v
theorem inS_mem: v∈inS vars s↔v∈vars/\s.testBit v=true:=by simp[inS]
theorem Qsv(h:Xm vars): Xm (inS vars s):=List.Pairwise.sublist List.filter_sublist h
theorem Qrh(ha:Xm vs)(hu:u∈vs)(h:u<v): lv vs u<lv vs v:=by
 have i:=(Yj ha hu).1;have mono:∀ k,lv vs (u+1)<=lv vs (u+1+k):=by
  intro k;induction k with
  | zero=>exact Nat.le_refl _
  | succ k ih=>
   by_cases h:u+1+k∈vs
   repeat grind [Yj,Nat.add_assoc,Jjt]
 have:=mono (v-(u+1));grind
theorem Qgm(h:Xm vars)(hl:∀ v∈vars,v<32): Xm (rnm vars s):=by
 unfold rnm Xm;rw[List.pairwise_map];refine List.Pairwise.imp_of_mem (fun {u v} hu hv huv=>?_) (Qsv (s:=s) h);exact Qrh (Jqd s 32) (bk_mem.2 ⟨hl u (inS_mem.1 hu).1,(inS_mem.1 hu).2⟩) huv
theorem Qgl(hl:∀ v∈vars,v<32)(hk:k∈rnm vars s): k<(bk s 32).length:=by
 obtain⟨v,i,rfl⟩:=List.mem_map.1 hk;obtain⟨u,j⟩:=inS_mem.1 i;exact(Yj (Jqd s 32) (bk_mem.2 ⟨hl v u,j⟩)).2.1
theorem Jsc(vars:List Nat)(s:Nat): (rnm vars s).length=(inS vars s).length:=by simp[rnm]
def Jqj(m:Nat)(vars:Nat->List Nat)(rs:Nat->List Row)(s:Nat)(z:Row): Prop:=∀ i,i<m->∃ r∈rs i,∀ j,j<(vars i).length->s.testBit ((vars i).getD j 0)=true->r.getD j V0=z.getD ((vars i).getD j 0) V0
theorem Qwc{vars:List Nat}{s:Nat}{r z:Row}(hr:r.length=vars.length): ∀ k,k<=vars.length->(pmR (Uz vars s k) r=pmR (inS (vars.take k) s) z↔∀ j,j<k->s.testBit (vars.getD j 0)=true->r.getD j V0=z.getD (vars.getD j 0) V0)
 | 0,_=>by simp[Uz,inS,pmR]
 | k+1,h=>by
  have ih:=Qwc (s:=s) (z:=z) hr k om;grind [Jww,Jcj,Jbp,pmR,Uz,V0,inS,List.append_inj,Zu]
theorem Qpw{vars:Nat->List Nat}{rs ms:Nat->List Row}(hs:s<2^n)(hn:n<=32)(hlt:∀ i,i<m->∀ v∈vars i,v<n)(hlen:∀ i,i<m->∀ r∈rs i,r.length=(vars i).length)(hms:∀ i,i<m->∀ x,x∈ms i↔x∈(rs i).map (pmR (Vb (vars i) s)))(x:Row):
  Ia (bk s 32).length m (λi=>rnm (vars i) s) ms x↔∃ z:Row,z.length=n/\x=pmR (bk s 32) z/\Jqj m vars rs s z:=by
 have key:∀ z:Row,∀ i,i<m->(pmR (rnm (vars i) s) (pmR (bk s 32) z)∈ms i↔∃ r∈rs i,∀ j,j<(vars i).length->s.testBit ((vars i).getD j 0)=true->r.getD j V0=z.getD ((vars i).getD j 0) V0):=λz i hi=>by
  have e:pmR (rnm (vars i) s) (pmR (bk s 32) z)=pmR (inS (vars i) s) z:=by
   unfold rnm pmR;rw[List.map_map];refine List.map_congr_left λv J=>?_;obtain⟨h1,B⟩:=inS_mem.1 J;have G:v∈bk s 32:=bk_mem.2 ⟨by grind,B⟩;obtain⟨_,h4,h5⟩:=Yj (Jqd s 32) G;grind
  rw[e,hms i hi,List.mem_map];have hk:∀ r∈rs i,(pmR (Vb (vars i) s) r=pmR (inS (vars i) s) z↔∀ j,j<(vars i).length->s.testBit ((vars i).getD j 0)=true->r.getD j V0=z.getD ((vars i).getD j 0) V0):=λr Z=>by
   have:=Qwc (s:=s) (z:=z) (hlen i hi r Z) (vars i).length (Nat.le_refl _);rw[List.take_length]at this;exact this
  grind
 constructor
 .rintro⟨hl,hx⟩;let z:Row:=(List.range n).map λu=>x.getD (lv (bk s 32) u) V0
  have y:z.length=n:=by simp[z]
  have D:x=pmR (bk s 32) z:=by
   apply List.ext_getElem
   .rw[Zu];exact hl
   intro k h1 B;rw[Zu]at B;have U:=bk_mem.1 (getD_mem' 0 _ B);have O:=Jzn hs U.2;have h3:=Jtj (z:=z) B;grind [Ql,V0,Zu,bk,lv,List.getD,List.getElem?_range,Jgs,Jqd]
  refine⟨z,y,D,λi hi=>?_⟩;grind
 rintro⟨z,y,rfl,G⟩;exact⟨Zu _ _,λi hi=>(key z i hi).2 (G i hi)⟩
end Go.Proofs.YtebiphhfkdbpfaaGreatDoor
namespace Go.Wk
open Go.RowKit
variable {b n t ty:Nat}
theorem stb1{P:Program}{al:AL}{w:World}{Q:Exit->Act->World->Prop}{ops:Array Oper}{rest:List Oper}{pos:String}{aft:Array Edge}{tt:TT}[h:Tab P tt]{x y:Operand}{k:TK}{u v:Value}(hb:Blk w b t [u])(kk:∀ w1,Blk w1 b t [v]->w.grownBy w1 (some b)->(∀ a,Ext a w->a.heap.size<=b->Ext a w1)->WL P n ops Q rest al w1)(hv:v.oneCell'=true)(ht:tk tt t=some k:=by rfl)(hk:k.size=1:=by rfl)(hp:Vj k.desc=true:=by rfl)(hx:ev al x=some (.pointer (some ⟨b,0,none⟩)):=by rfl)(hy:ev al y=some v:=by rfl):
  WL P n ops Q (⟨none,.store t x y,ty,pos,aft,none⟩::rest) al w :=
 Jmr h.ok ht hk hp hx hy hv (hb.cell 0) (hb.frozen 0) (kk _ (hb.set 0 v) ⟨rfl,rfl,rfl,by simp[World.setCell],λk hk hn=>Below.heap_setCell w ⟨b,0,none⟩ v k (λe=>hn (by rw[e]))⟩ λa j i=>j.setCell i v)
end Go.Wk
namespace Go.Proofs.YtebiphhfkdbpfaaGreatDoor
open Go.RowKit Pl Go.Wk
attribute [local irreducible] WC WL QX WD WDB WP WN WG
variable {cs vs:List Nat}{ts ts':List TA}{base c ca n s:Nat}{vars:Nat->List Nat}{ms rs:Nat->List Row}{A Aa:Option Addr}{v:Value}{w:World}
structure MOk(n:Nat)(ts:List TA)(vars:Nat->List Nat)(rs:Nat->List Row)(s:Nat): Prop where
 run:RunOk n ts vars rs
 sb:s<2^n
 valid:∀ i,i<ts.length->∀ r∈rs i,r.all Xg=true
 srtP:∀ i,i<ts.length->(rs i).length<=12∨Srt [] ((rs i).map (pmR (Vb (vars i) s)))
theorem Xww(h:Xm vs): Ir (nz vs):=λj u i=>by
 rw[Xw]at i;rw[Jgd i,Jgd (show j-1<vs.length by omega)];have:=List.pairwise_iff_getElem.1 h (j-1) j om i om;grind
theorem Jrt(h:RunOk n ts vars rs): Jzk n (ts.map (·.2)):=by
 have J:=h.n32;refine⟨om,om,by rw[List.length_map];exact h.m32,λa G=>?_,λv j=>?_⟩
 .obtain⟨t,ht,rfl⟩:=List.mem_map.1 G;obtain⟨i,hi,e⟩:=List.getElem_of_mem ht;have y:=h.at_ i hi;rw[Ql ta0 ts hi,e]at y;rw[y];refine⟨Xww (h.asc i hi),λv j=>?_,by simp only;rw[Xw]⟩;obtain⟨u,B,rfl⟩:=List.mem_map.1 j;have:=h.lt i hi u B;omega
 obtain⟨i,hi,D⟩:=h.cov v om;refine⟨(ts.getD i ta0).2,List.mem_map_of_mem (getD_mem' ta0 ts hi),?_⟩;rw[h.at_ i hi];exact List.mem_map.2 ⟨v,D,rfl⟩
def AtG(w:World)(cs:List Value)(a:Atm): Prop:=∃ t:V3,cs=t.cells/\AtV w t a
theorem Qvq: ∀(ps:List (List Value×Atm)) (w:World),(∀ p∈ps,AtG w p.1 p.2)->∃ ts:List TA,ts.map (·.2)=ps.map (·.2)/\atC ts=Jm ps/\ts.length=ps.length/\∀ q∈ts,AtV w q.1 q.2
 | [],w,_=>⟨[],rfl,rfl,rfl,λq hq=>by cases hq⟩
 | p::ps,w,h=>by
  obtain⟨qs,h1,h2,h3,h4⟩:=Qvq ps w λq hq=>h q (List.mem_cons_of_mem _ hq);obtain⟨t,e,hr⟩:=h p (mC ..);refine⟨(t,p.2)::qs,by simp[h1],?_,by simp[h3],λq hq=>?_⟩;repeat grind [Jm,atC,List.mem_cons.1]
theorem Jzp{ats:List Atm}(h:GV 3 AtG w v ats): ∃(ts:List TA) (A:Option Addr) (c:Nat),ats=ts.map (·.2)/\v=.slice A ts.length c/\ts.length<=c/\ts.length<=1100000/\Rd w 3 A ts.length (atC ts)/\∀ p∈ts,AtV w p.1 p.2:=by
 obtain⟨ps,A,c,e,U,O,J,u,i⟩:=h;obtain⟨ts,G,D,B,y⟩:=Qvq ps w λp j=>(i p j).2;grind
theorem EA: ElT Tryz.prog 33 82 3 56 (.agg #[.slice none 0 0,.int .i64 0,.slice none 0 0]):=⟨Tryz.underlying33,info_parts kr,rfl,by decide⟩
theorem zInts: Qe Tryz.prog 22=some (.slice none 0 0):=kr
theorem zRows: Qe Tryz.prog 78=some (.slice none 0 0):=kr
theorem Jlx(v1 v2 v3:Value)(A B:Option Addr)(n c m d:Nat)(z:Int)(h1:v1=.slice A n c)(h2:v2=.int .i64 z)(h3:v3=.slice B m d)(w:World): (Instr.buildSlice 33 1 #[(0,.agg #[v1,v2,v3])]).run Tryz.prog w=.ok (.slice (some ⟨w.heap.size,0,none⟩) 1 1) (w.alloc (.cells [v1,v2,v3].toArray 82)):=by
 subst h1;subst h2;subst h3;kernel_rfl
theorem Qvh(A B:Option Addr)(n c m d:Nat)(z:Int)(w:World): (Instr.build 82 #[(0,.slice A n c),(1,.agg #[.int .i64 z,.slice B m d])]).run Tryz.prog w=.ok (.agg #[.slice A n c,.int .i64 z,.slice B m d]) w:=kr
theorem Jjq{z:Int}(h:v.oneCell'=true): ∀ u∈[v,.int .i64 z,.slice A n c],u.oneCell'=true:=λu i=>by
 simp only[List.mem_cons,List.not_mem_nil,or_false]at i;rcases i with rfl|rfl|rfl
 .exact h
 .rfl
 rfl
theorem Qlq(hok:MOk n ts vars rs s)(hl:ts'.length=ts.length)(he:(List.range ts.length).map (λj=>(⟨nz (rnm (vars j) s),(rnm (vars j) s).length,ms j⟩:Atm))=ts'.map (·.2))(hms:∀ j,j<ts.length->Zn [] ((rs j).map (pmR (Vb (vars j) s))) (ms j)/\(ms j).length<=65536): RunOk (bk s 32).length ts' (λj=>rnm (vars j) s) ms:=by
 have B:=hok.run.n32;have y:∀ i,i<ts.length->∀ v∈vars i,v<32:=λi hi v J=>by have:=hok.run.lt i hi v J;omega
 refine⟨Jmf s 32,by rw[hl];exact hok.run.m32,λi hi=>?_,λi hi=>Qgm (hok.run.asc i (hl ▸ hi)) (y i (hl ▸ hi)),λi hi u O=>Qgl (y i (hl ▸ hi)) O,λk D=>?_,λi hi=>(hms i (hl ▸ hi)).1.1,λi hi r U=>?_,λi hi=>(hms i (hl ▸ hi)).2⟩
 .have h1:(ts'.map (·.2))[i]?=some (ts'.getD i ta0).2:=by rw[List.getElem?_map,List.getElem?_eq_getElem hi,Option.map_some,Ql ta0 ts' hi]
  grind
 .obtain⟨h1,G⟩:=bk_mem.1 (getD_mem' 0 _ D);obtain⟨i,hi,Z⟩:=hok.run.cov _ (Jzn hok.sb G);exact⟨i,hl.symm ▸ hi,List.mem_map.2 ⟨_,inS_mem.2 ⟨Z,G⟩,Jgs (Jqd s 32) D⟩⟩
 obtain⟨x,hx,rfl⟩:=List.mem_map.1 (((hms i (hl ▸ hi)).1.2 r).1 U);have:=Jww (vars i) s (vars i).length (Nat.le_refl _);rw[List.take_length]at this;rw[Zu,Jsc];exact this
theorem Qrz(hok:MOk n ts vars rs s)(hms:∀ j,j<ts.length->Zn [] ((rs j).map (pmR (Vb (vars j) s))) (ms j)/\(ms j).length<=65536){x:Row}(hx:Ia (bk s 32).length ts.length (λi=>rnm (vars i) s) ms x): x.all Xg=true:=by
 rw[List.all_eq_true];intro y J;obtain⟨k,U,rfl⟩:=List.getElem_of_mem J;have u:k<(bk s 32).length:=by rw[<-hx.1];exact U
 obtain⟨h1,G⟩:=bk_mem.1 (getD_mem' 0 _ u);obtain⟨i,hi,O⟩:=hok.run.cov _ (Jzn hok.sb G);have h3:=hx.2 i hi;obtain⟨r,B,e⟩:=List.mem_map.1 (((hms i hi).1.2 _).1 h3);have D:x.getD k V0∈pmR (rnm (vars i) s) x:=List.mem_map.2 ⟨k,List.mem_map.2 ⟨_,inS_mem.2 ⟨O,G⟩,Jgs (Jqd s 32) u⟩,rfl⟩;rw[<-e]at D;obtain⟨c,Z,e2⟩:=List.mem_map.1 D;have h5:=List.all_eq_true.1 (hok.valid i hi r B) (r.getD c V0) (getD_mem' V0 r (by rw[hok.run.len i hi r B];exact Qwd Z));grind
theorem Qnh(s:Nat): (madeCells (Value.int .i64 0).cells (32*1)).toList=Jb (nz (Vk s 0)):=by
 have e:(madeCells (Value.int .i64 0).cells (32*1)).toList=List.replicate 32 (Value.int .i64 0):=Vw _ _;have i:Vk s 0=List.replicate 32 0:=by simp[Vk,List.map_const']
 rw[e,i];rfl
theorem Qnd(cs:List Nat)(i x:Nat): Jb (nz (cs.set i x))=(Jb (nz cs)).set i (.int .i64 (x:Int)):=by simp[Jb,nz,List.map_set]
theorem Qxh(h:Qp w base v cs): ∃ A c,v=.slice A cs.length c/\cs.length<=c/\∀ g,v.ownBlock=some g->base<=g/\g<w.heap.size:=Jv h
theorem Qpv(hok:MOk n ts vars rs s)(hR:Rd w 3 Aa ts.length (atC ts))(hle:ts.length<=ca)(hat:∀ p∈ts,AtV w p.1 p.2)(hcap:∀ l:List Row,Lt [] l->(∀ x∈l,∃ z:Row,z.length=n/\x=pmR (bk s 32) z/\Jqj ts.length vars rs s z)->l.length<=65536):
  Ret Tryz.prog 62 [.int .i64 (n:Int),.int .u32 (s:Int),.slice Aa ts.length ca] w λu w'=>Ext w w'/\∃(t':V3) (st:Int) (l:List Row),u=.tuple #[.agg t'.cells.toArray,.int .i64 st,.int .i64 0] /\
   Off (λk=>k<w.heap.size) w' (λx=>AtV x t' ⟨nz (bk s 32),(bk s 32).length,l⟩)/\Lt [] l/\(∀ x,x∈l↔∃ z:Row,z.length=n/\x=pmR (bk s 32) z/\Jqj ts.length vars rs s z)/\l.length<=65536:=by
 have b3:=hok.run.n32;have et:=hok.run.m32;have b2:s<4294967296:=nM hok.sb (Nat.pow_le_pow_right (n:=2) (by decide) b3);have a3:∀ i,i<ts.length->∀ v∈vars i,v<32:=λi hi v hv=>by have:=hok.run.lt i hi v hv;omega
 refine Jz Tryz.func62 Tryz.ntmps62 rfl kr rfl ?_;refine ρ ?_;refine alc Yg ?_;intro w1 b6 c1 ei ae;refine ρ ?_;refine cl (Qqq (n:=(n:Int)) (ats:=ts.map (·.2)) ⟨ts,Aa,ca,rfl,rfl,hle,om,hR.ext c1,λp hp=>(hat p hp).ext c1⟩) ?_
 rintro u w2 ⟨cu,e,rfl,he⟩;have e0:=he.2 (Jrt hok.run);subst e0;clear he;refine ρ ?_;refine Jqt (s:=s) (v:=n) b3 ?_;rw[Nat.div_eq_of_lt hok.sb];refine ρ ?_;refine mkn EI 32 om (by unfold maxLen;omega) ?_;intro w3 Na cr c8 _;rw[Qnh s]at c8;refine ρ ?_;refine alc zInts ?_;intro w4 bo e6 dj J;refine ρ ?_;refine stb1 J ?_ rfl;intro w5 J f7 e5;have aq:Ext w3 w5:=e5 w3 e6 dj;have bp:=c1.trans cu;have cp:Ext w w5:=(bp.trans cr).trans aq;have d6:w5.ownsRow w.heap.size 3 1 (.slice Na 32 32) 32 (Jb (nz (Vk s 0))):=Kj (Jh c8 aq) bp.size;have bw:Blk w5 b6 82 [.slice none 0 0,.int .i64 0,.slice none 0 0]:=(ae.ext cu).ext (cr.trans aq);refine ρ ?_;refine Qq (fun (v:Nat) (vv:Value)=>[(0,.int .i64 (n:Int)),(1,.int .u32 (s:Int)),(2,.slice Aa ts.length ca),(6,.pointer (some ⟨b6,0,none⟩)),(10,vv),(11,.pointer (some ⟨bo,0,none⟩)),(37,.int .i64 (v:Int))])
  (λv vv w'=>v<=32/\Ext w w'/\Blk w' b6 82 [.slice none 0 0,.int .i64 0,.slice none 0 0]/\Blk w' bo 22 [.slice Na 32 32]/\w'.ownsRow w.heap.size 3 1 (.slice Na 32 32) 32 (Jb (nz (Vk s v)))/\Qp w' w.heap.size vv (bk s v)/\∀ g,vv.ownBlock=some g->(Value.slice Na 32 32).ownBlock≠some g) (λv _=>32-v) 0 (.slice none 0 0) sB
  ⟨om,cp,bw,J,d6,Xr _ _ _ _,λg e=>(by cases e)⟩ ?_
 clear c8 d6 bw J;rintro v vv w6 ⟨hv,bh,ae,J,ad,az,a7⟩;refine ρ ?_;refine ci (λh=>?_) (λh=>?_)
 .have lv:v<32:=by have:=oT h;omega
  clear h;have de:=Jmf s v;have eu:∀ {w':World},(Vk s v).length=32:=fun {_}=>Jxn s v
  obtain⟨VA,vc,ck,cz,c2⟩:=Qxh az;refine ρ ?_;refine Jqt (s:=s) (v:=v) om ?_;refine ρ ?_;refine ci (λh=>?_) (λh=>?_)
  .rw[Ip b2]at h;subst ck;refine ρ ?_;refine ld (J.at (i:=0) rfl) ?_;refine ρ ?_;refine ix v (Rd.own ad) lv ?_;obtain⟨s1,s2,s3,s4,s5⟩:=Xp ad (q:=v) om (.int .i64 ((bk s v).length:Int));refine ρ ?_;refine sto (s1.trans (Qs (by rw[Jxn];exact lv))) s2 ?_;rw[<-Qnd]at s3;have d4:∀ g,(Value.slice Na 32 32).ownBlock=some g->w.heap.size<=g:=λg eg=>by
    obtain⟨_,_,_,_,hf⟩:=Jv ad;exact(hf g eg).1
   have a1:Ext w (w6.setCell (adr Na v) (.int .i64 ((bk s v).length:Int))):=Ja bh s5 d4;have a2:=ae.grown s5 (ae.ne_own ad rfl);have Z:=J.grown s5 (J.ne_own ad rfl);have ac:Qp (w6.setCell (adr Na v) (.int .i64 ((bk s v).length:Int))) w.heap.size (.slice VA (bk s v).length vc) (bk s v):=Qj az (GrN.by s5 λg eg=>eg) (λg eg e=>a7 g eg e);generalize w6.setCell (adr Na v) (.int .i64 ((bk s v).length:Int))=w7 at *
   clear s1 s2 s4 s5;refine ρ ?_;refine bsl (bs1Int'' _) ?_;intro w8 b8 y fa ek;refine ρ ?_;refine apI (Jh ac y) ek om (a1.trans y).size ?_;intro e3 w9 c4 a4 ee;have am:Ext w w9:=Ja (a1.trans y) a4 (λg eg=>(c2 g eg).1);refine ρ ?_;refine Ju (v+1) e3 sO ⟨om,am,(a2.ext y).grown a4 ((a2.ext y).ne_own (Jh ac y) rfl),(Z.ext y).grown a4 ((Z.ext y).ne_own (Jh ac y) rfl),?_,?_,λg eg e=>?_⟩ om
   .rw[Jtx lv,if_pos h];exact Qj (Jh s3 y) (GrN.by a4 λg eg=>eg) (λg eg e=>a7 g e eg)
   .rw[Jmd,if_pos h];exact c4
   rcases ee g eg with h'|h'
   .exact a7 g h' e
   obtain⟨_,_,_,_,hf⟩:=Jv s3;have:=(hf g e).2;have:=y.size;omega
  rw[Ip b2]at h;have hf:¬ s.testBit v=true:=by rw[h];simp
  refine ρ ?_;refine Ju (v+1) vv sO ⟨om,bh,ae,J,?_,?_,a7⟩ om
  .rw[Jtx lv,if_neg hf];exact ad
  rw[Jmd,if_neg hf,List.append_nil];exact az
 have e8:v=32:=by have:=oF h;omega
 subst e8;clear h a7;obtain⟨VA,vc,ck,cz,c2⟩:=Qxh az;subst ck;have de:=Jmf s 32;refine ρ ?_;refine Kh (fun (i:Nat) (st:Int) (vp:Value) (ms:Nat->List Row)=>[(0,.int .i64 (n:Int)),(1,.int .u32 (s:Int)),(6,.pointer (some ⟨b6,0,none⟩)),(10,.slice VA (bk s 32).length vc),(13,.func (.func 116) #[] #[.pointer (some ⟨bo,0,none⟩)]),(14,.int .i64 st),(15,vp),(56,.slice Aa ts.length ca),(57,.int .i64 (ts.length:Int)),(58,.int .i64 (i:Int))])
  (λi st vp ms w'=>i<=ts.length/\Ext w w'/\w6.heap.size<=w'.heap.size/\Blk w' b6 82 [.slice none 0 0,.int .i64 0,.slice none 0 0]/\Blk w' bo 22 [.slice Na 32 32]/\w'.ownsRow w.heap.size 3 1 (.slice Na 32 32) 32 (Jb (nz (Vk s 32)))/\Qp w' w.heap.size (.slice VA (bk s 32).length vc) (bk s 32) /\
   OwnG 82 3 AtG w' w6.heap.size vp ((List.range i).map λj=>⟨nz (rnm (vars j) s),(rnm (vars j) s).length,ms j⟩)/\∀ j,j<i->Zn [] ((rs j).map (pmR (Vb (vars j) s))) (ms j)/\(ms j).length<=65536) (λi _ _ _=>ts.length-i) 0 0 (.slice none 0 0) (λ_=>[]) sB
  ⟨Nat.zero_le _,bh,Nat.le_refl _,ae,J,ad,az,OwnG.nil _ _,λj hj=>om⟩ ?_
 rintro i st vp ms w7 ⟨hi,a1,b1,a2,Z,d5,ac,cb,ah⟩;refine ρ ?_;refine ci (λh=>?_) (λh=>?_)
 .have li:i<ts.length:=by have:=oT h;omega
  have dk:=hR.ext a1;obtain⟨t1,t2,t3,a,hp⟩:∃ t1 t2 t3 a,ts.getD i ta0=((t1,t2,t3),a):=⟨_,_,_,_,rfl⟩;have dn:AtV w (t1,t2,t3) a:=by have:=hat _ (Kr rfl li);rw[hp]at this;exact this
  have ea:a=⟨nz (vars i),(vars i).length,rs i⟩:=by have:=hok.run.at_ i li;rw[hp]at this;exact this
  subst ea;clear h;have h3:∀ u∈[t1,t2,t3],u.oneCell'=true:=dn.one;refine ρ ?_;refine ixq 3 i dk li ?_;refine ρ ?_;refine lds (cs:=[t1,t2,t3]) (λj u hu=>Kc dk rfl li (by rw[hp];exact hu)) ?_;refine ρ ?_;refine alc Yg ?_;intro w8 fc y di bc;refine ρ ?_;refine stb (cs':=[t1,t2,t3]) bc ?_ h3;intro w9 bc a4 am;have af:Ext w7 w9:=am w7 y di;refine ρ ?_;refine ldW bc ?_;refine ρ ?_;refine cl (Xwm (t:=(t1,t2,t3)) (dn.ext (a1.trans af)) b2 (hok.run.asc i li) (a3 i li) (hok.run.len i li) (hok.run.big i li)) ?_;rintro u ao ⟨a5,⟨p1,p2,p3⟩,rfl,m,a6,d8,d7,ag⟩;have U:=ag (hok.srtP i li);have cj:=a6.here;obtain⟨⟨PA,pc,dz,d3,e9,f5⟩,dx,bl⟩:=id cj;simp only at dz dx;obtain⟨bg,PG,ap,_,dw,_⟩:=id bl;simp only at dw;have cq:=a1.trans af;have e7:=cq.trans a5;refine ρ ?_;refine alc Yg ?_;intro e1 fb ay dh ai;refine ρ ?_;refine stb (cs':=[p1,p2,p3]) ai ?_ cj.one;intro aj ai db ax;have B:Ext ao aj:=ax ao ay dh
  refine ρ ?_;subst dz;subst dx;subst dw;refine lds (cs:=[.int .i64 ((inS (vars i) s).length:Int),.slice PG bg.length ap]) (ai.sub2 (i:=1) rfl rfl) ?_;refine ρ ?_;have bd:=cj.ext B;refine cl (Gt bd.rel) ?_;rintro u bf ⟨rfl,G⟩;obtain⟨c0,d2⟩:∃ c0:Int,c0=IntKind.i64.wrap (st+(m.length:Int)):=⟨_,rfl⟩;have ch:=ai.ext G;repeat first|refine ω4 ?_|refine ω5 ?_|refine χ1 ?_|refine κ1 ?_|refine κ2 ?_|refine χ2 ?_|refine κ3 ?_|refine ω6 ?_|refine ω7 ?_|refine ω9 ?_|refine κ4 ?_|refine κ7 ?_|refine κ8 ?_|refine χ3 ?_|refine χ4 ?_|refine κ5 ?_|refine κ6 ?_|refine χ5 ?_|refine χ6 ?_|refine χ7 ?_|refine ω8 ?_
  rw[<-d2];refine ρ ?_;refine ldW ch ?_;refine ρ ?_;have O:Ext w7 bf:=((af.trans a5).trans B).trans G;have aw:=a1.trans O;refine clv (Qpz (Na:=Na) (nums:=Vk s 32) (bd.ext G) ?_ ?_ (λv hv=>?_) ?_) ?_
  .rw[Jxn];exact Z.ext O
  .rw[Jxn];exact Rd.own (Jh d5 O)
  .rw[Jxn];exact a3 i li v (inS_mem.1 hv).1
  .have:=List.length_filter_le (λv=>s.testBit v) (vars i);have h5:=Jcs (hok.run.asc i li) (a3 i li);unfold inS;omega
  rintro u an ⟨av,v1,rfl,c5⟩;have d0:=c5.here;obtain⟨QA,qc,dt,f4,f3,f2⟩:=d0;refine ρ ?_;refine bsl (Jlx v1 _ _ QA PG _ qc _ ap _ dt rfl rfl) ?_;intro bz fd au ey dm;have en:(inS (vars i) s).map (λv=>(Vk s 32).getD v 0)=rnm (vars i) s:=by
   unfold rnm;refine List.map_congr_left λv hv=>?_;obtain⟨h5,h6⟩:=inS_mem.1 hv;exact Qng (a3 i li v h5) h6
  rw[en]at c5;have D:=(O.trans av).trans au;have b7:=cb.ext D;obtain⟨_,_,_,_,c9⟩:=cb.form;have c7:∀ k,Yp w6.heap.size vp k->k<w7.heap.size:=λk hk=>by
   rcases hk with hk|hk
   .exact nM hk b1
   exact(c9 k hk).2
  have hΦ:Off (Yp w6.heap.size vp) bz (λu=>AtG u [v1,.int .i64 ((inS (vars i) s).length:Int),.slice PG bg.length ap] ⟨nz (rnm (vars i) s),(rnm (vars i) s).length,m⟩):=by
   have h5:Off (λk=>k<w7.heap.size) bz (λu=>IntsV u v1 (nz (rnm (vars i) s))):=(c5.mono λk _ hk=>nM hk O.size).ext au;have h6:Off (λk=>k<w7.heap.size) bz (λu=>AtV u (.slice PA (nz (inS (vars i) s)).length pc,.int .i64 ((inS (vars i) s).length:Int),.slice PG bg.length ap) ⟨nz (inS (vars i) s),(inS (vars i) s).length,m⟩) :=
    (a6.mono λk _ hk=>nM hk af.size).ext (((B.trans G).trans av).trans au)
   refine((h5.and h6).imp λu h=>⟨(v1,.int .i64 ((inS (vars i) s).length:Int),.slice PG bg.length ap),rfl,h.1,?_,h.2.2.2⟩).mono λk _ hk=>c7 k hk;simp only;rw[Jsc]
  refine ρ ?_;refine apG EA (Φ:=AtG) b7 dm rfl (Jjq (by rw[dt];rfl)) hΦ (by simp;omega) om (nL b1 D.size) ?_;intro cn be dl a9 er;have cw:Ext w be:=Ja (a1.trans D) a9 (λg eg=>nL bh.size (c9 g eg).1);have bm:∀ {g t:Nat} {cs:List Value},Blk w7 g t cs->Nat.beq 82 t=false->Blk be g t cs:=λhB e=>by
   obtain⟨ps,_,ho,_⟩:=b7;exact(hB.ext D).grown a9 ((hB.ext D).ne_own ho e)
  have cc:Blk be b6 82 [.slice none 0 0,.int .i64 0,.slice none 0 0]:=by
   exact(a2.ext D).grown a9 λe=>by have:=(c9 b6 e.symm).1;have:=ae.lt;omega
  have br:∀ {m':Nat} {v:Value} {xs:List Value},w7.ownsRow w.heap.size 3 1 v m' xs->be.ownsRow w.heap.size 3 1 v m' xs:=λho=>by
   obtain⟨ps,_,ed,_⟩:=b7;exact Vg (Jh ho D) ed a9 rfl
  refine ρ ?_;refine Ym (i+1) c0 cn (upd ms i m) sO ⟨om,cw,Nat.le_trans b1 (nL D.size a9.size),cc,bm Z rfl,br d5,br ac,?_,λj hj=>?_⟩ om
  .rw[List.range_succ,List.map_append,List.map_singleton,Jt];have e:(List.range i).map (λj=>(⟨nz (rnm (vars j) s),(rnm (vars j) s).length,upd ms i m j⟩:Atm))=(List.range i).map (λj=>⟨nz (rnm (vars j) s),(rnm (vars j) s).length,ms j⟩):=by
    refine List.map_congr_left λj hj=>?_;have:=List.mem_range.1 hj;rw[Jc _ _ om]
   rw[e];exact dl
  by_cases e:j=i
  .subst e;rw[Jt];exact⟨U,d8⟩
  rw[Jc _ _ e];exact ah j om
 have eh:i=ts.length:=by have:=oF h;omega
 subst eh;clear h;refine ρ ?_;refine alc zRows ?_;intro w8 cm y dg aa;have ej:=cb.ext y;obtain⟨e4,PA,pc,du,em,d3,e9,eb,ec⟩:=Jzp (ej.gv (by simp;omega));have c6:e4.length=ts.length:=by
  have:=congrArg List.length du;simpa using this.symm
 have bt:=Qlq hok c6 du ah;subst em;have co:=a1.trans y;have b5:=Qpw (m:=ts.length) (ms:=ms) hok.sb b3 hok.run.lt hok.run.len (λi hi x=>(ah i hi).1.2 x);refine ρ ?_;refine cl (Xjr (bx':=λk=>k=cm) (Y:=YM cm) bt eb d3 ec (Jrt bt) (λk hk=>by subst hk;exact aa.lt) (Qpx aa.lt) (λw' cx=>⟨nM aa.lt cx.size,.slice none 0 0,aa.ext cx,OwnG.nil _ _⟩) ?_) ?_
 .intro l h1 h2;refine hcap l h1 λx hx=>(b5 x).1 ?_;have:=h2 x hx;rw[c6]at this;exact this
 rintro u w9 ⟨a4,f0,base,l,rfl,f8,ew,⟨f9,ez,cg,hO⟩,bn,a8⟩;rw[c6]at a8;have cy:w.heap.size<=cm:=nL a1.size dg;have am:Ext w w9:=a4.old co λk hk=>by subst hk;exact cy
 have b9:=Jr (a2.ext y) a4 (λe=>by have:=a2.lt;omega);have c4:Qp w9 w.heap.size (.slice VA (bk s 32).length vc) (bk s 32):=Qj (Jh ac y) a4 (λg eg e=>by subst e;exact aa.ne_own (Jh ac y) rfl eg.symm);have d9:l.length<=65536:=by
  refine hcap l bn λx hx=>(b5 x).1 ((a8 x).1 hx)
 obtain⟨LA,lc,dq,f6,hlf⟩:=hO.form;subst dq;have bi:=Qgb (hO.gv om);refine ρ ?_;refine ld (cg.at (i:=0) rfl) ?_;refine ρ ?_;refine cl (Qgr (ar:=(bk s 32).length) bi) ?_;rintro u ao ⟨a5,rv,e,rfl,⟨z,RB,rm,rd,rfl⟩,dc,bs⟩;have ef:∀ r∈l,r.length=(bk s 32).length/\r.all Xg=true:=λr hr=>⟨((a8 r).1 hr).1,Qrz hok ah ((a8 r).1 hr)⟩;have e0:=dc de ef d9;subst e0;obtain⟨_,_,m,a6,d8,d7,ag⟩:=bs rfl;have U:=ag (.inr (Gy bn));have eo:m=l:=Jqx U.1 bn U.2;subst eo;clear ag U dc bs d7;refine ρ ?_;refine alc Yf ?_;intro e1 ep ay df bb;refine ρ ?_;refine stb (cs':=[.int .i64 z,.slice RB rm rd]) bb ?_ Vq;intro aj bb db ax;have B:Ext ao aj:=ax ao ay df;refine ρ ?_;have ab:=a5.trans B;have ce:=b9.ext ab;have bj:=(a6.here).ext B;refine drN (λk=>k=b6) 12 [(0,0),(0,1),(0,2),(0,3),(0,4),(0,5),(0,6),(1,7),(0,8),(1,9),(0,10),(0,11)] kr ?_;have ak:Ext aj aj.drew:=(Ext.refl aj).drew
 have ba:=bb.ext ak;have bu:=ce.ext ak;have bm:¬ (λk=>k=b6) ep:=λe=>by
  have h1:=b9.lt;have h2:=a5.size;simp only at e;omega
 refine ρn ?_;refine Vu (cs:=[.int .i64 z,.slice RB rm rd]) (λw' hg j u hu=>(Jr ba hg bm).at hu) ?_;refine ρn ?_;refine nbld (Qvh _ _ _ _ _ _ _) ?_;refine ρn ?_;refine Vu (cs:=[.int .i64 z,.slice RB rm rd]) (λw' hg j u hu=>(Jr ba hg bm).at hu) ?_;refine ρn ?_;refine nop ?_;refine cl (Gt (bj.ext ak)) ?_;rintro u bf ⟨rfl,G⟩;refine ρ ?_;refine Qg (GrN.ext G) ?_;refine ρn ?_;refine nop ?_;refine stb (cs':=[.slice VA (bk s 32).length vc,.int .i64 z,.slice RB rm rd]) (bu.ext G) ?_ (Jjq rfl);intro an cd b4 av;refine ω5 ?_;refine Qg (GrN.by b4 λk e=>by injection e with e;exact e.symm) ?_;refine ρn ?_;refine ρ ?_;have aw:Ext w bf:=((am.trans ab).trans ak).trans G;refine Qzk cd ⟨Jbs aw b4 ei,(.slice VA (bk s 32).length vc,.int .i64 z,.slice RB rm rd),_,m,rfl,?_,bn,λx=>(a8 x).trans (b5 x),d9⟩;have da:GrN (λk=>k=b6) bf an:=GrN.by b4 λk e=>by injection e with e;exact e.symm
 have bq:=Jh c4 ((ab.trans ak).trans G);have d1:Qp an w.heap.size (.slice VA (bk s 32).length vc) (bk s 32):=Qj bq da λg eg e=>by subst e;exact(bu.ext G).ne_own bq rfl eg.symm
 have h5:Off (λk=>k<w.heap.size) an (λu=>IntsV u (.slice VA (bk s 32).length vc) (nz (bk s 32))):=by
  refine(Jkq d1 λg eg hk=>by have:=(c2 g eg).1;omega).imp λu h=>⟨VA,vc,by rw[Xw],by rw[Xw];exact cz,by rw[Xw];omega,by rw[Xw];exact Rd.own h⟩
 have h6:Off (λk=>k<w.heap.size) an (λu=>RelV u (.agg #[.int .i64 z,.slice RB rm rd]) (bk s 32).length m):=by
  have h7:=a6.ext ((B.trans ak).trans G);have h8:=h7.gr (da.mono λk _ hk=>by subst hk;exact b9.lt);exact h8.mono λk _ hk=>nM hk am.size
 refine(h5.and h6).imp λu h=>?_;obtain⟨h7,rv,ds,h8⟩:=h;have e2:(Value.int .i64 z)=.int .i64 ((bk s 32).length:Int)/\Value.slice RB rm rd=rv:=by
  simp only[Value.agg.injEq,Array.mk.injEq,List.cons.injEq,and_true]at ds;exact ds
 exact⟨h7,e2.1,by simp only;rw[e2.2];exact h8⟩
end Go.Proofs.YtebiphhfkdbpfaaGreatDoor
namespace Go.Wk
open Go.RowKit
variable {p:Addr}{z:Int}{kd:IntKind}{cs cs' xs:List Value}{b e g m t:Nat}{i x y:Operand}{k k2:TK}{v:Value}
section
variable {N:Nat->Prop} {P:Program} {n:Nat} {al:AL} {w:World} {Q:Exit->Act->World->Prop} {ops:Array Oper} {rest:List Oper} {drest:List (Nat×Oper)}
variable {d ty:Nat} {pos:String} {aft:Array Edge} {tt:TT}
theorem Jkd(hT:TOk P tt)(ht:tk tt t=some k)(hk:k.desc=.array m e)(w:World): (isAgg t).run P w=.ok true w/\Zy P t=some k.size/\P.underlying t=some (.array m e)/\Zy P e=some k.esz:=by
 have:=hT.at ht;unfold Yu at this;rw[hk]at this;exact⟨by simp[isAgg,run_underlying this.1],this.2.2,this.1,this.2.1⟩
theorem Jrp(hT:TOk P tt)(ht:tk tt t=some k)(hk:k.desc=.array m e)(hl:k.size=cs.length)(hc:∀ j u,cs[j]?=some u->w.cell? (p.add j)=some u): (loadVar t p).run P w=.ok (.agg cs.toArray) w:=by
 have i:=run_loadCells_list (P:=P) w p cs hc;rw[<-hl]at i;simp[loadVar,(Jkd hT ht hk w).1,Ve w (Jkd hT ht hk w).2.1,i]
theorem lda[h:Tab P tt](hc:∀ j u,cs[j]?=some u->w.cell? (p.add j)=some u)(hl:k.size=cs.length)(kk:WL P n ops Q rest ((d,.agg cs.toArray)::al) w)(ht:tk tt t=some k:=by rfl)(hk:k.desc=.array m e:=by rfl)(hx:ev al x=some (.pointer (some p)):=by rfl)(hd:Nat.blt d n=true:=by rfl): WL P n ops Q (⟨some d,.load t x,ty,pos,aft,none⟩::rest) al w :=
 wop hd (λa i=>by simp[execOp,i.ev hx,Instr.loadAt,Instr.sureAddr,Jrp (w:=w) h.ok ht hk hl hc]) kk
theorem sta[h:Tab P tt](hb:Blk w b t cs)(kk:∀ w1,Blk w1 b t cs'->w.grownBy w1 (some b)->(∀ a,Ext a w->a.heap.size<=b->Ext a w1)->WL P n ops Q rest al w1)(h1:∀ u∈cs',u.oneCell'=true)(hl:cs.length=cs'.length)(hs:k.size=cs'.length)(ht:tk tt t=some k:=by rfl)(hk:k.desc=.array m e:=by rfl)(hx:ev al x=some (.pointer (some ⟨b,0,none⟩)):=by rfl)(hy:ev al y=some (.agg cs'.toArray):=by rfl):
  WL P n ops Q (⟨none,.store t x y,ty,pos,aft,none⟩::rest) al w:=by
 have D:=Jjz w b cs'.toArray;refine Jqq (λa B=>?_) (kk (w.setRow b cs'.toArray) (setRow_heap w b _ _ _ _ hb) D (λa hx B=>Ja hx D (λk hk=>by grind)));have j:=Ve w (Jkd h.ok ht hk w).2.1;have i:=run_storeCells_from (P:=P) b t cs' 0 cs.toArray w hb (by simpa using hl.symm) h1;simp only[List.take_zero,List.nil_append]at i;simp[execOp,B.ev hx,B.ev hy,Instr.storeAt,Instr.sureAddr,storeVar,Value.cells,j,hs,i]
theorem Qzl[h:Tab P tt]{fn:Func}{Φ:Value->World->Prop}{c:Nat}(hb:Blk w b t cs)(hs:k.size=cs.length)(hp:Φ (.agg cs.toArray) w)(hr:fn.results = #[.cell c t]:=by rfl)(ht:tk tt t=some k:=by rfl)(hk:k.desc=.array m e:=by rfl)(hc:lk al c=some (.pointer (some ⟨b,0,none⟩)):=by rfl):
  QX n (Yk P fn Φ) .ret al w :=
 Jzg (rs:=[.cell c t]) (vs:=[.agg cs.toArray]) hr ⟨⟨_,hc,Jrp h.ok ht hk hs (λj u i=>hb.at i)⟩,trivial⟩ rfl hp
theorem idx[h:Tab P tt](j:Nat)(hlt:j<m)(hv:cs[j]?=some v)(kk:WL P n ops Q rest ((d,v)::al) w)(ht:tk tt t=some k:=by rfl)(hk:k.desc=.array m e:=by rfl)(h1:k.esz=1:=by rfl)(he:tk tt e=some k2:=by rfl)(hp:Vj k2.desc=true:=by rfl)(hx:ev al x=some (.agg cs.toArray):=by rfl)(hi:ev al i=some (.int kd z):=by rfl)(hj:z=(j:Int):=by first|rfl|omega)(hd:Nat.blt d n=true:=by rfl):
  WL P n ops Q (⟨some d,.index t x i,ty,pos,aft,none⟩::rest) al w :=
 wop hd (λa y=>by
  subst hj;have u:=Jkd h.ok ht hk w;have B:=Ve w (h1 ▸ u.2.2.2);have D:=(Jvs h.ok he hp w).1;simp[execOp,y.ev hx,y.ev hi,Instr.index,asIntOf,run_underlying u.2.2.1,hlt,B,part,D,hv]) kk
theorem ixs[h:Tab P tt](j:Nat)(hlt:j<m)(kk:WL P n ops Q rest ((d,.pointer (some (p.add (j*k.esz))))::al) w)(ht:tk tt t=some k:=by rfl)(hk:k.desc=.array m e:=by rfl)(hx:ev al x=some (.pointer (some p)):=by rfl)(hi:ev al i=some (.int kd z):=by rfl)(hj:z=(j:Int):=by first|rfl|omega)(hd:Nat.blt d n=true:=by rfl): WL P n ops Q (⟨some d,.indexAddr t x i,ty,pos,aft,none⟩::rest) al w :=
 wop hd (λa u=>Jyg h.ok j ht hk hlt u hx hi hj (some d) w) kk
theorem dixs[h:Tab P tt](j:Nat)(hlt:j<m)(kk:WD P n ops Q drest ((d,.pointer (some (p.add (j*k.esz))))::al) w)(ht:tk tt t=some k:=by rfl)(hk:k.desc=.array m e:=by rfl)(hx:ev al x=some (.pointer (some p)):=by rfl)(hi:ev al i=some (.int kd z):=by rfl)(hj:z=(j:Int):=by first|rfl|omega)(hd:Nat.blt d n=true:=by rfl): WD P n ops Q ((0,⟨some d,.indexAddr t x i,ty,pos,aft,none⟩)::drest) al w :=
 dy (λw' _ a u=>Jyg h.ok j ht hk hlt u hx hi hj (some d) w') hd kk
theorem adr1(b v:Nat): (⟨b,0,none⟩:Addr).add (v*1)=⟨b,v,none⟩:=by rw[Zm,Nat.mul_one,Nat.zero_add]
theorem ixb[h:Tab P tt](j:Nat)(hlt:j<m)(kk:WL P n ops Q rest ((d,.pointer (some ⟨b,j,none⟩))::al) w)(ht:tk tt t=some k:=by rfl)(hk:k.desc=.array m e:=by rfl)(h1:k.esz=1:=by rfl)(hx:ev al x=some (.pointer (some ⟨b,0,none⟩)):=by rfl)(hi:ev al i=some (.int kd z):=by rfl)(hj:z=(j:Int):=by first|rfl|omega)(hd:Nat.blt d n=true:=by rfl): WL P n ops Q (⟨some d,.indexAddr t x i,ty,pos,aft,none⟩::rest) al w:=by
 rw[<-adr1 b j,<-h1]at kk;exact ixs j hlt kk ht hk hx hi hj hd
theorem dixb[h:Tab P tt](j:Nat)(hlt:j<m)(kk:WD P n ops Q drest ((d,.pointer (some ⟨b,j,none⟩))::al) w)(ht:tk tt t=some k:=by rfl)(hk:k.desc=.array m e:=by rfl)(h1:k.esz=1:=by rfl)(hx:ev al x=some (.pointer (some ⟨b,0,none⟩)):=by rfl)(hi:ev al i=some (.int kd z):=by rfl)(hj:z=(j:Int):=by first|rfl|omega)(hd:Nat.blt d n=true:=by rfl): WD P n ops Q ((0,⟨some d,.indexAddr t x i,ty,pos,aft,none⟩)::drest) al w:=by
 rw[<-adr1 b j,<-h1]at kk;exact dixs j hlt kk ht hk hx hi hj hd
theorem nixb[h:Tab P tt](j:Nat)(hlt:j<m)(kk:WN N P n ops Q drest ((d,.pointer (some ⟨b,j,none⟩))::al) w)(ht:tk tt t=some k:=by rfl)(hk:k.desc=.array m e:=by rfl)(h1:k.esz=1:=by rfl)(hx:ev al x=some (.pointer (some ⟨b,0,none⟩)):=by rfl)(hi:ev al i=some (.int kd z):=by rfl)(hj:z=(j:Int):=by first|rfl|omega)(hd:Nat.blt d n=true:=by rfl): WN N P n ops Q ((0,⟨some d,.indexAddr t x i,ty,pos,aft,none⟩)::drest) al w:=by
 rw[<-adr1 b j,<-h1]at kk;exact nixa j hlt kk ht hk hx hi hj hd
theorem Blk.atc{w:World}{t:TypeId}(h:Blk w g t cs){i:Nat}(hv:cs[i]?=some v): w.cell? ⟨g,i,none⟩=some v:=by rw[h.cell];exact hv
theorem sla[h:Tab P tt](kk:WL P n ops Q rest ((d,.slice (some p) m m)::al) w)(ht:tk tt t=some k:=by rfl)(hk:k.desc=.array m e:=by rfl)(hx:ev al x=some (.pointer (some p)):=by rfl)(hd:Nat.blt d n=true:=by rfl): WL P n ops Q (⟨some d,.slice t x none none none,ty,pos,aft,none⟩::rest) al w :=
 wop hd (λa u=>by
  have i:=Jkd h.ok ht hk w;have j:=Ve w i.2.2.2;simp[execOp,u.ev hx,Instr.sliceAt,run_underlying i.2.2.1,Instr.sureAddr,Instr.sliceBounds,j];grind [add_zero]) kk
theorem cpb{dT sT dl dc sn sc:Nat}{A:Option Addr}[h:Tab P tt](hb:Blk w b t cs)(hr:Rd w 1 A sn xs)(hsn:sn<=dl)(hdl:dl<=cs.length)(h1:∀ u∈xs,u.oneCell'=true)(kk:∀ w1,Blk w1 b t (xs++cs.drop sn)->w.grownBy w1 (some b)->WL P n ops Q rest ((d,.int .i64 (sn:Int))::al) w1)(ht:tk tt dT=some k:=by rfl)(hk:k.desc=.slice e:=by rfl)(hz:k.esz=1:=by rfl)(hx:ev al x=some (.slice (some ⟨b,0,none⟩) dl dc):=by rfl)(hy:ev al y=some (.slice A sn sc):=by rfl)(hd:Nat.blt d n=true:=by rfl):
  WL P n ops Q (⟨some d,.call { callee:=.builtin .copy,args:=#[x,y],argTypes:=#[dT,sT] },ty,pos,aft,none⟩::rest) al w:=by
 have J:xs.length=sn:=by rw[hr.len,Nat.mul_one]
 have O:=Gp h.ok ht hk hz;have D:(P.info? e).map (·.size)=some 1:=O.2
 have U:=Jjz w b (xs++cs.drop sn).toArray;have hB:Blk (w.setRow b (xs++cs.drop sn).toArray) b t (xs++cs.drop sn):=setRow_heap w b _ _ _ _ hb;refine wop (w':=w.setRow b (xs++cs.drop sn).toArray) hd (λa G=>?_) (kk _ hB U);by_cases h0:sn=0
 .subst h0;have:xs=[]:=List.eq_nil_of_length_eq_zero J;subst this;have e0:w.setRow b ([]++cs.drop 0).toArray=w:=by
   have:=setRow_self w b cs.toArray t (0,0) hb;simpa using this
  rw[e0];cases hq:P.info? e with
  | none=>rw[hq]at D;cases D
  | some i=>
   cases A with
   | none=>simp[execOp,resolve,invoke,builtin,G.ev hx,G.ev hy,Builtin.copy_,run_underlying O.1,Builtin.lenOf,Builtin.firstCells,sizeOf,typeInfo,hq,storeCells,goInt]
   | some Z=>simp[execOp,resolve,invoke,builtin,G.ev hx,G.ev hy,Builtin.copy_,run_underlying O.1,Builtin.lenOf,Builtin.firstCells,sizeOf,typeInfo,hq,storeCells,goInt,loadCells,loadCellsFrom]
 obtain⟨Z,hA,_⟩:=hr.isome om om;subst hA;have B:=run_copy_row P w dT sT ty e b 0 dl dc Z sn sc cs.toArray t xs O.1 D hb (by grind) (λj v hv=>hr.cell hv) (by simp;omega) h1;rw[J]at B;have e1:(cs.toArray.toList.take 0++xs++cs.toArray.toList.drop (0+sn)).toArray=(xs++cs.drop sn).toArray:=by simp
 rw[e1]at B;simp[execOp,resolve,invoke,builtin,G.ev hx,G.ev hy,B,goInt]
end
end Go.Wk
namespace Go.Wk
open Go.RowKit
variable {listed:Array Bool}{l:List Oper}{fuel fuel' i:Nat}{o oi oj:Oper}
section
variable {P:Program} {n:Nat} {al al':AL} {w:World} {Q:Exit->Act->World->Prop} {ops:Array Oper} {T:Nat->Bool}
def Kp(P:Program)(ops:Array Oper)(Q:Exit->Act->World->Prop)(T:Nat->Bool)(i:Nat)(w0:World)(fuel:Nat)(listed:Array Bool): Exit->Act->World->Prop
 | .normal,a,w=>(T i=false->Ext w0 w)/\(Closed ops listed->Zp P ops Q T fuel listed a w)
 | _,_,_=>False
theorem Xv{w0:World}(hx:T i=false->Ext w0 w)(h:WH P n ops Q T fuel listed al w): QX n (Kp P ops Q T i w0 fuel listed) .normal al w:=λa u=>⟨hx,λj=>h j a u⟩
theorem Jdd(ho:ops[i]?=some o)(hc:Closed ops listed)(h:WL P n ops (Kp P ops Q T i w fuel listed) [o] al w): ∀ a,Fr n al a->wpOp P ops (QF Q) i (λa' w'=>(T i=false->Ext w w')/\Zp P ops Q T fuel listed a' w') a w:=λa B=>by
 have j:=h a B;unfold wpList at j;unfold wpOp;simp only[ho];have u:¬ LetsOut (Kp P ops Q T i w fuel listed):=by rintro⟨a,w,h⟩;exact h
 split
 .rename_i hw;simp only[hw,if_true]at j;rcases j with j|⟨_,j⟩
  .left
   refine Oper.wp_mono (K:=wpList P ops (Kp P ops Q T i w fuel listed) []) (λa' w' y=>⟨y.1,y.2 hc⟩) ?_;unfold Oper.wp at j ⊢;grind [Yo,Kp]
  exact absurd j u
 rename_i hw;simp only[hw]at j;exact⟨j.1,j.2 hc⟩
theorem Jwf(i j:Nat)(hr:Region.ready .any l.toArray listed=[i,j])(hf:fuel=fuel'+1)(hi:nth l i=some oi)(hj:nth l j=some oj)(h1:WL P n l.toArray (Kp P l.toArray Q T i w fuel' (listed.setIfInBounds i true)) [oi] al w)(h2:WL P n l.toArray (Kp P l.toArray Q T j w fuel' (listed.setIfInBounds j true)) [oj] al w): WH P n l.toArray Q T fuel listed al w:=λB a D=>by
 subst hf;have J:l.toArray[i]?=some oi:=by rw[<-hi,Xq];simp
 have G:l.toArray[j]?=some oj:=by rw[<-hj,Xq];simp
 refine⟨λh0=>(by rw[hr]at h0;cases h0),λk y=>?_⟩;have u:=y;rw[hr]at y;simp only[List.mem_cons,List.not_mem_nil,or_false]at y;rcases y with rfl|rfl
 .exact Jdd J (B.step u) h1 a D
 exact Jdd G (B.step u) h2 a D
theorem Vl(i:Nat)(hr:Region.ready .any l.toArray listed=[i])(hf:fuel=fuel'+1)(hi:nth l i=some oi)(h1:WL P n l.toArray (Kp P l.toArray Q T i w fuel' (listed.setIfInBounds i true)) [oi] al w): WH P n l.toArray Q T fuel listed al w:=λy a B=>by
 subst hf;have D:l.toArray[i]?=some oi:=by rw[<-hi,Xq];simp
 refine⟨λh0=>(by rw[hr]at h0;cases h0),λk j=>?_⟩;have u:=j;rw[hr]at j;simp only[List.mem_cons,List.not_mem_nil,or_false]at j;subst j;exact Jdd D (y.step u) h1 a B
theorem hpur(i:Nat)(hsel:Region.noSelect l.toArray=true)(hr:((Region.ready .any l.toArray listed).contains i && Region.free .any l.toArray listed i)=true)(hf:fuel=fuel'+1)(hi:nth l i=some oi)(h:WP P n l.toArray (Io P l.toArray Q T fuel' (listed.setIfInBounds i true)) [] [oi] al w): WH P n l.toArray Q T fuel listed al w:=λu a D=>by
 subst hf;simp only[Bool.and_eq_true]at hr;have j:i∈Region.ready .any l.toArray listed:=by simpa using hr.1
 have y:l.toArray[i]?=some oi:=by rw[<-hi,Xq];simp
 unfold WP at h;obtain⟨v,B,G⟩:=h a D;exact Jvm (λ_ _=>True) (λ_=>trivial) (λ_ _=>trivial) y (Region.noSelect_spec hsel) (λ_ _ _ _ _ _ _ _=>trivial) _ listed a w u (Region.free_spec y hr.2) j B (G (u.step j))
end
section
variable {N:Nat->Prop} {P:Program} {n:Nat} {al al':AL} {w:World} {Q:Exit->Act->World->Prop} {ops:Array Oper}
def WM(N:Nat->Prop)(P:Program)(n:Nat)(ops:Array Oper)(Q:Exit->Act->World->Prop)(fuel:Nat)(listed:Array Bool)(al:AL)(w:World): Prop:=Closed ops listed->∀ a,Fr n al a->Kg N P ops Q noT fuel listed a w
theorem WM.sub{fuel:Nat}{listed:Array Bool}(hs:Sub al' al)(h:WM N P n ops Q fuel listed al' w): WM N P n ops Q fuel listed al w:=λi a j=>h i a (j.sub hs)
end
end Go.Wk
namespace Go.Wk
open Go.RowKit
variable {d n ty v:Nat}
theorem sl64{P:Program}{al:AL}{w:World}{Q:Exit->Act->World->Prop}{ops:Array Oper}{rest:List Oper}{pos:String}{aft:Array Edge}{y:Operand}{t yt:TypeId}(hv:v<64)(kk:WL P n ops Q rest ((d,.int .u64 ((2^v:Nat):Int))::al) w)(hy:ev al y=some (.int .i64 (v:Int)):=by rfl)(hd:Nat.blt d n=true:=by rfl):
  WL P n ops Q (⟨some d,.binOp .shl t (.const (.int .u64 1)) y yt,ty,pos,aft,none⟩::rest) al w:=by
 have e:IntKind.u64.wrap (1*2^(min ((v:Nat):Int).toNat IntKind.u64.bits))=((2^v:Nat):Int):=by
  have h:2^v<18446744073709551616:=nM (Nat.pow_lt_pow_right (by decide:1<2) hv) (by decide);rw[Int.toNat_natCast,Nat.min_eq_left (by show v<=64;omega),Int.one_mul];have:((2:Int)^v)=((2^v:Nat):Int):=by simp
  rw[this,IntKind.wrap_u64];grind
 rw[<-e]at kk;exact wop hd (λa i=>Jkh (x:=.const (.int .u64 1)) rfl hy om i (some d) w) kk
end Go.Wk
namespace Go.Proofs.YtebiphhfkdbpfaaGreatDoor
open Go.RowKit Pl Go.Wk
attribute [local irreducible] WC WL QX WD WDB WP WN WG
variable {es:List Nat}{c e i n v x:Nat}{A:Option Addr}{w:World}
def Uc(es:List Nat): List Value:=es.map fun (e:Nat)=>Value.int .u32 (e:Int)
theorem Jcv(h:i<es.length): (Uc es)[i]?=some (.int .u32 (es.getD i 0:Int)):=by
 simp[Uc,List.getD,List.getElem?_eq_getElem h]
structure GrV(w:World)(A:Option Addr)(c n:Nat)(es:List Nat): Prop where
 rd:Rd w 1 A es.length (Uc es)
 cap:es.length<=c
 n32:n<=32
 few:es.length<=64
 lt:∀ e∈es,e<2^n
abbrev grC(A:Option Addr)(c n:Nat)(es:List Nat): List Value:=[.int .i64 (n:Int),.slice A es.length c]
theorem GrV.ext{w w':World}{A:Option Addr}{c n:Nat}{es:List Nat}(h:GrV w A c n es)(hx:Ext w w'): GrV w' A c n es:=⟨h.rd.ext hx,h.cap,h.n32,h.few,h.lt⟩
theorem Ku(h:n<=32): 2^n<=4294967296:=Nat.pow_le_pow_right (n:=2) (by decide) h
theorem GrV.lt32(h:GrV w A c n es)(he:e∈es): e<4294967296:=nM (h.lt e he) (Ku h.n32)
theorem Qtf(hn:n<=32)(w:World): Ret Tryz.prog 86 [.int .i64 (n:Int)] w λu w'=>u=.int .u32 ((2^n-1:Nat):Int)/\w'=w:=by
 have j:=Ku hn;have i:0<2^n:=Nat.two_pow_pos n;refine Jz Tryz.func86 Tryz.ntmps86 rfl kr rfl ?_;refine ρ ?_;refine sl64 (v:=n) om ?_;refine ρ ?_;refine Jq ⟨?_,rfl⟩;generalize 2^n=p at *
 congr 1
 rw[IntKind.wrap_u64,IntKind.wrap_u32];omega
theorem Qvt(h:e<2^n)(hn:n<=32): Ue e (2^n-1)=0:=by
 have j:=Ku hn;have i:0<2^n:=Nat.two_pow_pos n;apply Nat.eq_of_testBit_eq
 grind [Jct,Nat.testBit_two_pow_sub_one,Nat.testBit_lt_two_pow,Nat.lt_of_lt_of_le,Nat.pow_le_pow_right]
theorem Jbq(h:GrV w A c n es): Ret Tryz.prog 46 [.agg (grC A c n es).toArray] w λu w'=>u=.int .i64 0/\Ext w w':=by
 have hn:=h.n32;have hf:=h.few;refine Jz Tryz.func46 Tryz.ntmps46 rfl kr rfl ?_;refine ρ ?_;refine bx (cs:=grC A c n es) ?_;intro w1 b y hb B;refine ρ ?_;refine ld (B.at (i:=0) rfl) ?_;refine ρ ?_;refine ld (B.at (i:=0) rfl) ?_;refine ρ ?_;refine cf ?_ ?_
 .grind
 refine ρ ?_;refine ld (B.at (i:=1) rfl) ?_;refine ρ ?_;refine cf ?_ ?_
 .grind
 refine ρ ?_;refine ld (B.at (i:=1) rfl) ?_;refine ρ ?_;refine Js (fun (i:Nat)=>[(1,.pointer (some ⟨b,0,none⟩)),(18,.slice A es.length c),(19,.int .i64 (es.length:Int)),(20,.int .i64 (i:Int))])
  (λi w'=>i<=es.length/\Ext w1 w') (λi=>es.length-i) 0 sB ⟨Nat.zero_le _,Ext.refl _⟩ ?_
 rintro i w2 ⟨hi,j⟩;have G:=B.ext j;have J:=h.ext (y.trans j);refine ρ ?_;refine ci (λh=>?_) (λh=>?_)
 .have D:i<es.length:=by have:=oT h;omega
  clear h;have O:=getD_mem' 0 es D;refine ρ ?_;refine ix i J.rd D ?_;refine ρ ?_;refine ld (J.rd.cell (Jcv D)) ?_;refine ρ ?_;refine ld (G.at (i:=0) rfl) ?_;refine ρ ?_;refine cl (Qtf hn w2) ?_;rintro u Z ⟨rfl,rfl⟩;have hp:=Ku hn;have U:0<2^n:=Nat.two_pow_pos n;refine ρ ?_;refine cf ?_ ?_
  .rw[Jvc (J.lt32 O) om,Qvt (h.lt _ O) hn];rfl
  refine ρ ?_;exact Jp (i+1) sO ⟨om,j⟩ om
 refine ρ ?_;exact Jq ⟨rfl,y.trans j⟩
def Xj(a:Nat->Nat): List Value:=(List.range 32).map λv=>.int .u32 (a v:Int)
theorem Yy(a:Nat->Nat): (Xj a).length=32:=by simp[Xj]
theorem Ka{a:Nat->Nat}(h:v<32): (Xj a)[v]?=some (.int .u32 (a v:Int)):=by simp[Xj,h]
theorem Jdt(a:Nat->Nat)(h:v<32): (Xj a).set v (.int .u32 (x:Int))=Xj (upd a v x):=by
 apply List.ext_getElem?
 grind [Yy,Ka,Jt,Jc,Xj]
theorem Jdv(a:Nat->Nat): ∀ u∈Xj a,u.oneCell'=true:=λu i=>by obtain⟨e,_,rfl⟩:=List.mem_map.1 i;rfl
theorem Jzt: Qe Tryz.prog 165=some (.agg (Xj λ_=>0).toArray):=kr
theorem Jmp: Qe Tryz.prog 164=some (.agg (List.replicate 32 (Value.int .i64 0)).toArray):=kr
def AdjP(n:Nat)(es:List Nat)(a:Nat->Nat): Prop:=∀ v,v<32->a v<4294967296/\∀ x,(a v).testBit x=(decide (v<n) && (x != v) && es.any λe=>e.testBit v && e.testBit x)
theorem Jvr: (2^v).testBit x=decide (v=x):=Nat.testBit_two_pow
theorem Qtg(h:GrV w A c n es): Ret Tryz.prog 189 [.agg (grC A c n es).toArray] w λu w'=>Ext w w'/\∃ a,u=.agg (Xj a).toArray/\AdjP n es a:=by
 have hn:=h.n32;have hf:=h.few;refine Jz Tryz.func189 Tryz.ntmps189 rfl kr rfl ?_;refine ρ ?_;refine bx (cs:=grC A c n es) ?_;intro w1 b1 a2 aq ae;refine ρ ?_;refine alc (cs:=Xj λ_=>0) Jzt ?_;intro w2 b2 Z ap am;refine ρ ?_;refine alc (cs:=Xj λ_=>0) Jzt ?_;intro w3 b3 a7 aj ak;have an:=(a2.trans Z).trans a7;refine ρ ?_;refine ld (((ae.ext Z).ext a7).at (i:=1) rfl) ?_;refine ρ ?_;refine Qq (fun (i:Nat) (a:Nat->Nat)=>[(1,.pointer (some ⟨b1,0,none⟩)),(2,.pointer (some ⟨b2,0,none⟩)),(3,.pointer (some ⟨b3,0,none⟩)),(8,.slice A es.length c),(9,.int .i64 (es.length:Int)),(10,.int .i64 (i:Int))])
  (λi a w'=>i<=es.length/\Ext w2 w'/\Blk w' b3 165 (Xj a)/\AdjP n (es.take i) a) (λi _=>es.length-i) 0 (λ_=>0) sB
  ⟨Nat.zero_le _,a7,ak,λv _=>⟨by simp only;omega,λx=>by simp⟩⟩ ?_
 rintro i a w4 ⟨hi,U,a6,ha⟩;have ad:=(ae.ext Z).ext U;have ac:=am.ext U;have h4:=h.ext ((a2.trans Z).trans U);refine ρ ?_;refine ci (λG=>?_) (λG=>?_)
 .have li:i<es.length:=by have:=oT G;omega
  clear G;have hm:=getD_mem' 0 es li;have B:=h4.lt32 hm;obtain⟨e,he⟩:∃ e,e=es.getD i 0:=⟨_,rfl⟩;refine ρ ?_;refine ix i h4.rd li ?_;refine ρ ?_;refine ld (h4.rd.cell (Jcv li)) ?_;rw[<-he]at hm B ⊢;refine ρ ?_;refine ld (ad.at (i:=0) rfl) ?_;refine ρ ?_;refine Qq (fun (v:Nat) (J:Nat->Nat)=>[(1,.pointer (some ⟨b1,0,none⟩)),(2,.pointer (some ⟨b2,0,none⟩)),(3,.pointer (some ⟨b3,0,none⟩)),(8,.slice A es.length c),(9,.int .i64 (es.length:Int)),(10,.int .i64 (i:Int)),(5,.int .u32 (e:Int)),(15,.int .i64 (n:Int)),(16,.int .i64 (v:Int))])
   (λv J w'=>v<=n/\Ext w2 w'/\Blk w' b3 165 (Xj J)/\∀ u,u<32->J u<4294967296/\∀ x,(J u).testBit x=((a u).testBit x || (decide (u<v) && e.testBit u && e.testBit x && (x != u)))) (λv _=>n-v) 0 a sB
   ⟨Nat.zero_le _,U,a6,λu hu=>⟨(ha u hu).1,λx=>by simp⟩⟩ ?_
  rintro v J w5 ⟨hv,O,a1,a3⟩;refine ρ ?_;refine ci (λG=>?_) (λG=>?_)
  .have lv:v<n:=by have:=oT G;omega
   have y:v<32:=om
   clear G;have a8:=a3 v y;have af:=Jjm y;refine ρ ?_;refine Jqt (s:=e) (v:=v) om ?_;refine ρ ?_;refine ci (λG=>?_) (λG=>?_)
   .rw[Ip B]at G;have a9:Ext w5 w5.drew:=(Ext.refl w5).drew;have D:=a1.ext a9;refine ρ ?_;refine drN (λ_=>False) 10 [(0,0),(0,1),(0,2),(0,3),(0,4),(0,5),(0,6),(0,7),(0,8),(2,9)] kr ?_;refine ρn ?_;refine nixb v y ?_;refine ρn ?_;refine nld (Qy (D.atc (Ka y)) (λe=>e)) ?_;refine ρn ?_;refine Jgf y ?_;refine ρn ?_;refine nixb v y ?_;refine ρn ?_;refine Xu ?_;refine sto (p:=⟨b3,v,none⟩) (D.cell v |>.trans (Ka y)) (D.frozen _) ?_;have a4:=Qvv (t:=2^v) B;have ag:bits .or .u32 (J v:Int) (bits .andNot .u32 (e:Int) ((2^v:Nat):Int))=((J v ||| Ue e (2^v):Nat):Int):=by
     rw[Jvc B af,Jqf a8.1 a4]
    rw[ag];have a5:=D.set v (.int .u32 ((J v ||| Ue e (2^v):Nat):Int));rw[Jdt J y]at a5;have aa:w2.heap.size<=b3:=aj;refine ω5 ?_;refine Uh ?_;refine ρn ?_;refine ρ ?_;refine Ju (v+1) (upd J v (J v ||| Ue e (2^v))) sO ⟨om,(O.trans a9).setCell aa _,a5,λu hu=>?_⟩ om;by_cases e1:u=v
    .subst e1;rw[Jt];refine⟨Jkr a8.1 a4,λx=>?_⟩;rw[Nat.testBit_or,Jct B af,Jvr,a8.2,G,decide_eq_true (Nat.lt_succ_self u),decide_eq_false (Nat.lt_irrefl u)];grind
    repeat grind [Jc]
   rw[Ip B]at G;refine ρ ?_;refine Ju (v+1) J sO ⟨om,O,a1,λu hu=>⟨(a3 u hu).1,λx=>?_⟩⟩ om;grind
  have ah:v=n:=by have:=oF G;omega
  subst ah;clear G;refine ρ ?_;refine Ju (i+1) J sO ⟨om,O,a1,λu hu=>⟨(a3 u hu).1,λx=>?_⟩⟩ om;rw[(a3 u hu).2,(ha u hu).2,Qr 0 li,<-he,List.any_append];grind
 have ai:i=es.length:=by have:=oF G;omega
 subst ai;clear G;rw[List.take_length]at ha;refine ρ ?_;refine lda (cs:=Xj a) (λj u hu=>a6.at hu) (Yy a).symm ?_;refine ρ ?_;refine sta (cs':=Xj a) ac ?_ (Jdv a) (by rw[Yy,Yy]) (Yy a).symm;intro w5 ab ao O;refine ρ ?_;exact Qzl ab (Yy a).symm ⟨O w ((a2.trans Z).trans U) (by have:=a2.size;omega),a,rfl,ha⟩
open Go.RowKit Pl Go.Wk
variable {es:List Nat}{c f n v:Nat}{A:Option Addr}{w:World}
theorem Qtd(h:GrV w A c n es)(hv:v<n): Ret Tryz.prog 155 [.agg (grC A c n es).toArray,.int .i64 (v:Int)] w λu w'=>Ext w w'/\∃ a,u=.int .u32 (a v:Int)/\AdjP n es a:=by
 have hn:=h.n32;refine Jz Tryz.func155 Tryz.ntmps155 rfl kr rfl ?_;refine ρ ?_;refine bx (cs:=grC A c n es) ?_;intro w1 b B hb O;refine ρ ?_;refine lds (cs:=grC A c n es) (λj u J=>O.at J) ?_;refine ρ ?_;refine cl (Jbq (h.ext B)) ?_;rintro u w2 ⟨rfl,y⟩;have D:=O.ext y;refine ρ ?_;refine ld (D.at (i:=0) rfl) ?_;refine ρ ?_;refine cf ?_ ?_
 .grind
 refine ρ ?_;refine lds (cs:=grC A c n es) (λj u J=>D.at J) ?_;refine ρ ?_;refine cl (Qtg (h.ext (B.trans y))) ?_;rintro u Z ⟨G,a,rfl,U⟩;refine ρ ?_;refine idx v (show v<32 by omega) (Ka (show v<32 by omega)) ?_;refine ρ ?_;exact Jq ⟨(B.trans y).trans G,a,rfl,U⟩
theorem Xjp(h:GrV w A c n es): Ret Tryz.prog 81 [.agg (grC A c n es).toArray] w λu w'=>Ext w w'/\∃ a,u=.agg (Xj a).toArray/\AdjP n es a:=by
 have hn:=h.n32;refine Jz Tryz.func81 Tryz.ntmps81 rfl kr rfl ?_;refine ρ ?_;refine bx (cs:=grC A c n es) ?_;intro w1 b1 a3 af a8;refine ρ ?_;refine alc (cs:=Xj λ_=>0) Jzt ?_;intro w2 b2 Z ae ac;refine ρ ?_;refine alc (cs:=Xj λ_=>0) Jzt ?_;intro w3 b3 a1 aa ab;refine ρ ?_;refine ld (((a8.ext Z).ext a1).at (i:=0) rfl) ?_;refine ρ ?_;refine Qq (fun (v:Nat) (a:Nat->Nat)=>[(1,.pointer (some ⟨b1,0,none⟩)),(2,.pointer (some ⟨b2,0,none⟩)),(3,.pointer (some ⟨b3,0,none⟩)),(6,.int .i64 (n:Int)),(7,.int .i64 (v:Int))])
  (λv a w'=>v<=n/\Ext w2 w'/\Blk w' b3 165 (Xj a)/\∀ u,u<32->a u<4294967296/\∀ x,(a u).testBit x=(decide (u<v) && (x != u) && es.any λe=>e.testBit u && e.testBit x)) (λv _=>n-v) 0 (λ_=>0) sB
  ⟨Nat.zero_le _,a1,ab,λu hu=>⟨by simp only;omega,λx=>by simp⟩⟩ ?_
 rintro v a w4 ⟨hv,G,U,ha⟩;have a7:=(a8.ext Z).ext G;have a6:=ac.ext G;have J:=(a3.trans Z).trans G;refine ρ ?_;refine ci (λhc=>?_) (λhc=>?_)
 .have lv:v<n:=by have:=oT hc;omega
  have y:v<32:=om
  clear hc;refine ρ ?_;refine lds (cs:=grC A c n es) (λj u hu=>a7.at hu) ?_;refine ρ ?_;refine cl (Qtd (h.ext J) lv) ?_;rintro u w5 ⟨D,a2,rfl,a4⟩;have B:=U.ext D;refine ρ ?_;refine ixb v y ?_;refine ρ ?_;refine sto (p:=⟨b3,v,none⟩) (B.cell v |>.trans (Ka y)) (B.frozen _) ?_;have O:=B.set v (.int .u32 ((a2 v:Nat):Int));rw[Jdt a y]at O;refine ρ ?_;refine Ju (v+1) (upd a v (a2 v)) sO ⟨om,(G.trans D).setCell aa _,O,λu hu=>?_⟩ om;by_cases e:u=v
  .subst e;rw[Jt,decide_eq_true (Nat.lt_succ_self u)];refine⟨(a4 u hu).1,λx=>?_⟩;rw[(a4 u hu).2,decide_eq_true lv]
  repeat grind [Jc]
 have a9:v=n:=by have:=oF hc;omega
 subst a9;clear hc;refine ρ ?_;refine lda (cs:=Xj a) (λj u hu=>U.at hu) (Yy a).symm ?_;refine ρ ?_;refine sta (cs':=Xj a) a6 ?_ (Jdv a) (by rw[Yy,Yy]) (Yy a).symm;intro w5 a5 ad D;refine ρ ?_;exact Qzl a5 (Yy a).symm ⟨D w J (by have:=a3.size;omega),a,rfl,ha⟩
theorem Xjn(h:GrV w A c n es)(hf:f<=n): Ret Tryz.prog 80 [.agg (grC A c n es).toArray,.int .i64 (f:Int)] w λu w'=>u=.int .i64 0/\Ext w w':=by
 have hn:=h.n32;refine Jz Tryz.func80 Tryz.ntmps80 rfl kr rfl ?_;refine ρ ?_;refine bx (cs:=grC A c n es) ?_;intro w1 b B O G;refine ρ ?_;refine lds (cs:=grC A c n es) (λj u J=>G.at J) ?_;refine ρ ?_;refine cl (Jbq (h.ext B)) ?_;rintro u w2 ⟨rfl,y⟩;have D:=G.ext y;refine ρ ?_;refine ld (D.at (i:=0) rfl) ?_;refine ρ ?_;refine cf ?_ ?_
 .grind
 refine ρ ?_;exact Jq ⟨rfl,B.trans y⟩
end Go.Proofs.YtebiphhfkdbpfaaGreatDoor
namespace Go.Proofs.YtebiphhfkdbpfaaGreatDoor
open Pl Go.Wk
variable {es l ord perm:List Nat}{e i j k n u x:Nat}{f g:Nat->List Value}
def nb0(n:Nat)(es:List Nat)(u x:Nat): Bool:=decide (u<n) && (x != u) && es.any λe=>e.testBit u && e.testBit x
theorem Xwh(he:e<2^n)(h:e.testBit u=true): u<n:=Jzn he h
theorem Jkx(he:∀ e∈es,e<2^n)(h:nb0 n es u x=true): u<n/\x<n/\x≠u:=by
 simp only[nb0,Bool.and_eq_true,decide_eq_true_eq,bne_iff_ne,List.any_eq_true]at h;obtain⟨⟨B,y⟩,e,i,_,j⟩:=h;exact⟨B,Xwh (he e i) j,y⟩
theorem Qpb(he:∀ e∈es,e<2^n): NbInv [] (nb0 n es):=by
 refine⟨λu x _ _=>?_,λu x _ h=>⟨by simp,(Jkx he h).2.2⟩⟩;rw[Bool.eq_iff_iff];have key:∀ u x,nb0 n es u x=true->nb0 n es x u=true:=λu x h=>by
  have i:=Jkx he h;simp only[nb0,Bool.and_eq_true,decide_eq_true_eq,bne_iff_ne,List.any_eq_true]at h ⊢;grind
 grind
theorem Qjb: ∀(k:Nat) {l:List Nat},l.Nodup->(∀ u∈l,u<k)->l.length<=k
 | 0,[],_,_=>Nat.le_refl _
 | 0,u::l,_,h=>absurd (h u (mC ..)) om
 | k+1,l,hn,h=>by
  have h1:=Qjb k (l:=l.filter λu=>u != k) (hn.sublist List.filter_sublist) (λu hu=>by grind);have h2:l.length<=(l.filter λu=>u != k).length+1:=by
   clear h h1;induction l with
   | nil=>simp
   | cons x l ih=>
    grind [List.nodup_cons.1,List.filter_eq_self.2,List.filter_cons_of_neg,List.length_cons,List.filter_cons_of_pos]
  omega
theorem Qnl(hn:l.Nodup)(hlt:∀ u∈l,u<k)(hlen:l.length=k)(hu:u<k): u∈l:=by
 refine Classical.byContradiction λh=>?_;have:=Qjb k (l:=u::l) (List.nodup_cons.2 ⟨h,hn⟩) (λx i=>by grind);grind
def Zc(perm:List Nat)(f:Nat): List Nat:=perm++(List.range f).reverse
structure PermOk(n f:Nat)(perm:List Nat): Prop where
 fn:f<=n
 len:perm.length=n-f
 rng:∀ v∈perm,f<=v/\v<n
 nd:perm.Nodup
theorem PermOk.olen{f:Nat}(h:PermOk n f perm): (Zc perm f).length=n:=by
 have:=h.len;have:=h.fn;simp[Zc];omega
theorem PermOk.ond{f:Nat}(h:PermOk n f perm): (Zc perm f).Nodup:=by
 refine List.nodup_append.2 ⟨h.nd,List.pairwise_reverse.2 (List.nodup_range.imp λh=>h.symm),λu i v j e=>?_⟩;have y:=(h.rng u i).1;grind
theorem PermOk.olt{f:Nat}(h:PermOk n f perm)(hu:u∈Zc perm f): u<n:=by
 rcases List.mem_append.1 hu with h1|h1
 .exact(h.rng u h1).2
 have:=List.mem_range.1 (List.mem_reverse.1 h1);have:=h.fn;omega
theorem PermOk.omem{f:Nat}(h:PermOk n f perm): u∈Zc perm f↔u<n :=
 ⟨h.olt,λi=>Qnl h.ond (λ_=>h.olt) h.olen i⟩
theorem Jsz(hn:ord.Nodup)(hi:i<ord.length): pre ord (ord.getD i 0)=ord.take i:=by grind [Ql,List.drop_eq_getElem_cons,List.take_append_drop,List.nodup_append,List.mem_cons_self,Qhs]
def plc(ord:List Nat)(u:Nat): Nat:=(pre ord u).length
theorem Jfv(hn:ord.Nodup)(hi:i<ord.length): plc ord (ord.getD i 0)=i:=by grind [plc,Jsz,List.length_take]
theorem Jzq(hn:ord.Nodup)(hu:u∈ord): plc ord u<ord.length/\ord.getD (plc ord u) 0=u:=by
 obtain⟨i,hi,e⟩:=List.getElem_of_mem hu;have j:=Jfv hn hi;grind
def Qo(n:Nat)(f:Nat->List Value): List Value:=(List.range n).flatMap f
theorem Jzc(n:Nat)(f:Nat->List Value): Qo (n+1) f=Qo n f++f n:=by simp[Qo,List.range_succ,List.flatMap_append]
theorem Jhn{sz:Nat}(h:∀ i,i<n->(f i).length=sz): (Qo n f).length=n*sz:=by
 induction n with
 | zero=>simp[Qo]
 | succ n ih=>rw[Jzc,List.length_append,ih (λi hi=>h i om),h n om,Nat.succ_mul]
theorem Jbz(h:∀ i,i<n->f i=g i): Qo n f=Qo n g:=by
 induction n with
 | zero=>rfl
 | succ n ih=>rw[Jzc,Jzc,ih (λi hi=>h i om),h n om]
theorem Jhp{sz:Nat}(h:∀ i,i<n->(f i).length=sz)(hi:i<n)(hj:j<sz): (Qo n f)[i*sz+j]?=(f i)[j]?:=by
 induction n with
 | zero=>omega
 | succ n ih=>
  have u:=Jhn (n:=n) (λi hi=>h i om);rw[Jzc];grind
theorem Qtt{sz:Nat}(h:∀ i,i<n->(f i).length=sz)(hi:i<n){cs:List Value}(hc:cs.length=sz): (Qo n f).take (i*sz)++cs++(Qo n f).drop (i*sz+sz)=Qo n (upd f i cs):=by
 induction n with
 | zero=>omega
 | succ n ih=>
  have u:=Jhn (n:=n) (λi hi=>h i om);have j:=h n om;rw[Jzc,Jzc];by_cases e:i=n
  .grind [List.take_of_length_le,List.drop_of_length_le,List.length_append,Jt,Jbz,Jc]
  have y:i*sz+sz<=n*sz:=by
   have:(i+1)*sz<=n*sz:=nO _ om;grind
  grind [List.append_assoc,Jc]
open Go.RowKit Pl Go.Wk
attribute [local irreducible] WC WL QX WD WDB WP WN WG
variable {es perm:List Nat}{v x:Nat}
def Vm(o:Nat->Nat): List Value:=(List.range 32).map λi=>.int .i64 (o i:Int)
theorem Qxd(o:Nat->Nat): (Vm o).length=32:=by simp[Vm]
theorem Ik{o:Nat->Nat}(h:v<32): (Vm o)[v]?=some (.int .i64 (o v:Int)):=by simp[Vm,h]
theorem Qxc(o:Nat->Nat)(h:v<32): (Vm o).set v (.int .i64 (x:Int))=Vm (upd o v x):=by
 apply List.ext_getElem?
 grind [Qxd,Ik,Jt,Jc,Vm]
theorem Qsp(h:perm.length<=32): Jb (nz perm)++(List.replicate 32 (Value.int .i64 0)).drop perm.length=Vm λi=>perm.getD i 0:=by
 have j:(Jb (nz perm)).length=perm.length:=by simp[Jb,nz]
 apply List.ext_getElem?
 grind [List.getElem?_append_left,Qs,Ik,List.getElem?_append_right,List.getD,List.getElem?_eq_none,Nat.le_of_not_lt,Qxd]
def Zq(kf:Nat->Nat)(pf:Nat->Int)(v:Nat): List Value:=[.int .i64 (v:Int),.int .u32 (kf v:Int),.int .i64 (pf v)]
def Yd(n:Nat)(es ord:List Nat)(kf:Nat->Nat)(pf:Nat->Int): Prop:=∀ v,v<n->kf v<4294967296/\(∀ x,(kf v).testBit x=Vx (nb0 n es) ord v x) /\
 ((pf v = -1/\∀ x,Vx (nb0 n es) ord v x=false)∨∃ p:Nat,pf v=p/\Vx (nb0 n es) ord v p=true/\∀ x,Vx (nb0 n es) ord v x=true->plc ord p<=plc ord x)
theorem EBg: ElT Tryz.prog 49 66 3 24 (.agg #[.int .i64 0,.int .u32 0,.int .i64 0]):=⟨Tryz.underlying49,info_parts kr,rfl,by decide⟩
theorem zBag: Qe Tryz.prog 66=some (.agg #[.int .i64 0,.int .u32 0,.int .i64 0]):=kr
theorem Xkz(v k:Int)(w:World): (Instr.build 66 #[(0,.int .i64 v),(1,.int .u32 k),(2,.int .i64 (-1))]).run Tryz.prog w=.ok (.agg #[.int .i64 v,.int .u32 k,.int .i64 (-1)]) w:=kr
theorem Jgc{a b c:Int}: ∀ u∈[Value.int .i64 a,.int .u32 b,.int .i64 c],u.oneCell'=true:=λu i=>by
 simp only[List.mem_cons,List.not_mem_nil,or_false]at i;rcases i with rfl|rfl|rfl<;>rfl
theorem Qjt{zs:List Value}(h:0<zs.length)(n:Nat): (madeCells zs.toArray (n*zs.length)).toList=Qo n λ_=>zs:=by
 apply List.ext_getElem?
 intro k;by_cases hk:k<n*zs.length
 .have u:k / zs.length<n:=Nat.div_lt_of_lt_mul (by grind);have i:=Nat.mod_lt k h;have j:=Jhp (n:=n) (sz:=zs.length) (f:=λ_=>zs) (λ_ _=>rfl) u i;rw[Nat.div_add_mod' k zs.length]at j;rw[j];simp only[madeCells,Array.getElem?_toList,Array.getElem?_map,Array.getElem?_range,hk,if_true,Option.map_some];simp[i]
 have y:=Jhn (n:=n) (sz:=zs.length) (f:=λ_=>zs) (λ_ _=>rfl);rw[List.getElem?_eq_none (by simp[madeCells];omega),List.getElem?_eq_none om]
theorem made3(n:Nat): (madeCells (Value.agg #[.int .i64 0,.int .u32 0,.int .i64 0]).cells (n*3)).toList=Qo n λ_=>[.int .i64 0,.int .u32 0,.int .i64 0]:=Qjt (zs:=[.int .i64 0,.int .u32 0,.int .i64 0]) (by simp) n
def Uw(ord:List Nat)(kf:Nat->Nat)(pf:Nat->Int)(j v:Nat): List Value:=if plc ord v<j then Zq kf pf v else[.int .i64 0,.int .u32 0,.int .i64 0]
theorem Xwr(ord:List Nat)(kf:Nat->Nat)(pf:Nat->Int)(j v:Nat): (Uw ord kf pf j v).length=3:=by unfold Uw;split<;>rfl
def BagAt(n:Nat)(es ord:List Nat)(v k:Nat)(p:Int): Prop:=k<4294967296/\(∀ x,k.testBit x=Vx (nb0 n es) ord v x) /\
 ((p = -1/\∀ x,Vx (nb0 n es) ord v x=false)∨∃ q:Nat,p=q/\Vx (nb0 n es) ord v q=true/\∀ x,Vx (nb0 n es) ord v x=true->plc ord q<=plc ord x)
theorem Qkl(x y:Nat): decide (x=y) = !(y != x):=by grind
theorem Qzx{w:World}{A PA:Option Addr}{c pc n f:Nat}(h:GrV w A c n es)(hp:PermOk n f perm)(hP:Rd w 1 PA perm.length (Jb (nz perm))):
  Ret Tryz.prog 42 [.agg (grC A c n es).toArray,.int .i64 (f:Int),.slice PA perm.length pc] w λu w'=>Ext w w'/\∃ B kf pf,u=.tuple #[.slice B n n,.int .i64 0]/\w'.ownsRow w.heap.size 66 3 (.slice B n n) n (Qo n (Zq kf pf))/\Yd n es (Zc perm f) kf pf:=by
 have hn:=h.n32;have ez:=hp.fn;have fa:=hp.len;refine Jz Tryz.func42 Tryz.ntmps42 rfl kr rfl ?_;refine ρ ?_;refine bx (cs:=grC A c n es) ?_;intro w1 b3 dn fd e7;refine ρ ?_;refine lds (cs:=grC A c n es) (λj u hu=>e7.at hu) ?_;refine ρ ?_;refine cl (Xjn (h.ext dn) ez) ?_;rintro u w2 ⟨rfl,di⟩;have be:=dn.trans di;refine ρ ?_;refine Qq (fun (i:Nat) (s:Nat)=>[(1,.int .i64 (f:Int)),(2,.slice PA perm.length pc),(3,.pointer (some ⟨b3,0,none⟩)),(9,.int .u32 (s:Int)),(28,.slice PA perm.length pc),(29,.int .i64 (perm.length:Int)),(30,.int .i64 (i:Int))])
  (λi s w'=>i<=perm.length/\w'=w2/\s<4294967296/\∀ x,s.testBit x=true->x∈perm.take i) (λi _=>perm.length-i) 0 0 sB
  ⟨Nat.zero_le _,rfl,om,λx U=>by simp at U⟩ ?_
 rintro i s w' ⟨hi,rfl,hs,d4⟩;have af:=e7.ext di;refine ρ ?_;refine ci (λhc=>?_) (λhc=>?_)
 .have li:i<perm.length:=by have:=oT hc;omega
  clear hc;have e5:=hP.ext be;have hv:=hp.rng _ (getD_mem' 0 perm li);obtain⟨v,ev⟩:∃ v,v=perm.getD i 0:=⟨_,rfl⟩;refine ρ ?_;refine ix i e5 li ?_;refine ρ ?_;refine ld (e5.cell (Qs li)) ?_;rw[<-ev]at hv ⊢;refine ρ ?_;refine kf 37 ?_ ?_
  .exact dF om
  refine ρ ?_;refine ld (af.at (i:=0) rfl) ?_;refine ρ ?_;refine kf 43 ?_ ?_
  .exact dF om
  refine ρ ?_;refine Jqt (s:=s) (v:=v) om ?_;have dt:perm.take (i+1)=perm.take i++[v]:=by rw[Qr 0 li,ev]
  have er:v ∉ perm.take i:=λhm=>by
   have J:(perm.take (i+1)).Nodup:=hp.nd.sublist (List.take_sublist _ _);rw[dt,List.nodup_append]at J;exact J.2.2 _ hm _ (List.mem_singleton.2 rfl) rfl
  refine ρ ?_;refine cf ?_ ?_
  .rw[Ip hs];cases hb:s.testBit v with
   | false=>rfl
   | true=>exact absurd (d4 v hb) er
  have ch:=Jjm (show v<32 by omega);refine ρ ?_;refine sl32 (v:=v) om ?_;refine ρ ?_;rw[Jqf hs ch];refine ρ ?_;refine Ju (i+1) (s ||| 2^v) sO ⟨om,rfl,Jkr hs ch,λx U=>?_⟩ om;rw[Nat.testBit_or,Jvr,Bool.or_eq_true,decide_eq_true_eq]at U;rw[dt,List.mem_append,List.mem_singleton];rcases U with U|U
  .exact .inl (d4 x U)
  exact .inr U.symm
 clear hc hs d4 hi;refine ρ ?_;refine ld (af.at (i:=0) rfl) ?_;refine ρ ?_;refine cf ?_ ?_
 .exact Jmb om
 refine ρ ?_;refine alc (cs:=List.replicate 32 (Value.int .i64 0)) Jmp ?_;intro w3 a8 c1 cy cg;refine ρ ?_;refine alc (cs:=List.replicate 32 (Value.int .i64 0)) Jmp ?_;intro w4 a1 cj cx e8;have ce:=cg.ext cj;have dg:=(be.trans c1).trans cj;refine ρ ?_;refine sla ?_;refine ρ ?_;refine cpb (dl:=32) (dc:=32) ce (hP.ext dg) om (by simp) (λu hu=>?_) ?_
 .obtain⟨z,_,rfl⟩:=List.mem_map.1 hu;rfl
 intro w5 cd d8;rw[Qsp om]at cd;have d7:a1≠a8:=λe=>by have:=cg.lt;omega
 have da:Blk w5 a1 164 (Vm λ_=>0):=by
  have J:=e8.grown d8 (λe=>by injection e with e;exact d7 e);exact J
 have e6:Blk w5 b3 48 (grC A c n es):=by
  have J:=(af.ext (c1.trans cj)).grown d8 (λe=>by injection e with e;have:=af.lt;omega);exact J
 have c8:w'.heap.size<=a8:=cy;have eh:Ext w' w5:=Jbs (c1.trans cj) d8 c8;obtain⟨ord,ak⟩:∃ ord,ord=Zc perm f:=⟨_,rfl⟩;have c4:ord.length=n:=by rw[ak];exact hp.olen
 have a3:ord.Nodup:=by rw[ak];exact hp.ond
 have b6:∀ {u},u∈ord↔u<n:=fun {u}=>by rw[ak];exact hp.omem
 have cr:∀ i,i<n->ord.getD i 0<n:=λi hi=>b6.1 (getD_mem' 0 ord (c4.symm ▸ hi));clear cg ce;refine ρ ?_;refine Qq (fun (k:Nat) (o:Nat->Nat)=>[(1,.int .i64 (f:Int)),(2,.slice PA perm.length pc),(3,.pointer (some ⟨b3,0,none⟩)),(12,.pointer (some ⟨a8,0,none⟩)),(13,.pointer (some ⟨a1,0,none⟩)),(65,.int .i64 (f:Int)),(66,.int .i64 (k:Int))])
  (λk o w6=>k<=f/\Ext w' w6/\Blk w6 b3 48 (grC A c n es)/\Blk w6 a8 164 (Vm o)/\Blk w6 a1 164 (Vm λ_=>0)/\∀ j,j<perm.length+k->o j=ord.getD j 0) (λk _=>f-k) 0 (λi=>perm.getD i 0) sB
  ⟨Nat.zero_le _,eh,e6,cd,da,λj hj=>?_⟩ ?_
 .rw[ak];simp[Zc,List.getD,List.getElem?_append_left (show j<perm.length by omega)]
 rintro k o w6 ⟨hk,d1,bj,ah,bd,ho⟩;refine ρ ?_;refine ci (λhc=>?_) (λhc=>?_)
 .have lk:k<f:=by have:=oT hc;omega
  clear hc;have d5:perm.length+k<32:=om
  refine ρ ?_;refine ixb (perm.length+k) d5 ?_;refine ρ ?_;have ev:(f:Int)-1-(k:Int)=((f-1-k:Nat):Int):=om
  rw[ev];refine sto (p:=⟨a8,perm.length+k,none⟩) (ah.cell _ |>.trans (Ik d5)) (ah.frozen _) ?_;have Z:=ah.set (perm.length+k) (.int .i64 ((f-1-k:Nat):Int));rw[Qxc o d5]at Z;refine ρ ?_;refine Ju (k+1) (upd o (perm.length+k) (f-1-k)) sO ⟨om,d1.setCell c8 _,bj.far (by simp only;have:=af.lt;omega) _,Z,bd.far (λe=>d7 e) _,λj hj=>?_⟩ om;by_cases e:j=perm.length+k
  .subst e;rw[Jt,ak];simp only[Zc,List.getD];rw[List.getElem?_append_right om,Nat.add_sub_cancel_left,List.getElem?_reverse (by simp;omega),List.length_range,List.getElem?_range om];rfl
  rw[Jc _ _ e];exact ho j om
 have eu:k=f:=by have:=oF hc;omega
 subst eu;clear hc;have en:perm.length+k=n:=om
 rw[en]at ho;refine ρ ?_;refine ld (bj.at (i:=0) rfl) ?_;refine ρ ?_;refine Qq (fun (i:Nat) (q:Nat->Nat)=>[(2,.slice PA perm.length pc),(3,.pointer (some ⟨b3,0,none⟩)),(12,.pointer (some ⟨a8,0,none⟩)),(13,.pointer (some ⟨a1,0,none⟩)),(80,.int .i64 (n:Int)),(81,.int .i64 (i:Int))])
  (λi q w7=>i<=n/\Ext w' w7/\Blk w7 b3 48 (grC A c n es)/\Blk w7 a8 164 (Vm o)/\Blk w7 a1 164 (Vm q)/\∀ u,u<n->plc ord u<i->q u=plc ord u) (λi _=>n-i) 0 (λ_=>0) sB
  ⟨Nat.zero_le _,d1,bj,ah,bd,λu _ hu=>om⟩ ?_
 clear d1 bj ah bd;rintro i q w7 ⟨hi,bu,b7,Z,a9,hq⟩;refine ρ ?_;refine ci (λhc=>?_) (λhc=>?_)
 .have li:i<n:=by have:=oT hc;omega
  clear hc;have fb:=cr i li;have eo:=ho i li;refine ρ ?_;refine ixb i (show i<32 by omega) ?_;refine ρ ?_;refine ld (Z.atc (Ik (show i<32 by omega))) ?_;rw[eo];refine ρ ?_;refine ixb (ord.getD i 0) (show ord.getD i 0<32 by omega) ?_;refine ρ ?_;refine sto (p:=⟨a1,ord.getD i 0,none⟩) (a9.cell _ |>.trans (Ik (show ord.getD i 0<32 by omega))) (a9.frozen _) ?_;have cc:=a9.set (ord.getD i 0) (.int .i64 (i:Int));rw[Qxc q (show ord.getD i 0<32 by omega)]at cc;have c7:w'.heap.size<=a1:=nL c1.size cx;refine ρ ?_;refine Ju (i+1) (upd q (ord.getD i 0) i) sO ⟨om,bu.setCell c7 _,b7.far (by simp only;have:=af.lt;omega) _,Z.far (λe=>d7 e.symm) _,cc,λu hu et=>?_⟩ om;by_cases e:u=ord.getD i 0
  .rw[e,Jt,Jfv a3 (c4.symm ▸ li)]
  rw[Jc _ _ e];refine hq u hu ?_;have J:=Jzq a3 (b6.2 hu);rcases Nat.lt_or_ge (plc ord u) i with h2|h2
  .exact h2
  have:plc ord u=i:=om
  rw[this]at J;exact absurd J.2.symm e
 have ey:i=n:=by have:=oF hc;omega
 subst ey;clear hc;have dq:∀ u,u<i->q u=plc ord u:=λu hu=>hq u hu (by have:=(Jzq a3 (b6.2 hu)).1;omega);have c0:=be.trans bu;refine ρ ?_;refine lds (cs:=grC A c i es) (λj u hu=>b7.at hu) ?_;refine ρ ?_;refine cl (Xjp (h.ext c0)) ?_;rintro u w8 ⟨dh,a0,rfl,e4⟩;refine ρ ?_;refine alc (cs:=Xj λ_=>0) Jzt ?_;intro w9 a4 ef cw b8;refine ρ ?_;refine sta (cs':=Xj a0) b8 ?_ (Jdv a0) (by rw[Yy,Yy]) (Yy a0).symm;intro bt b8 f3 dm;have d0:Ext w8 bt:=dm w8 ef cw;have ae:=dh.trans d0;have bc:=b7.ext ae;refine ρ ?_;refine ld (bc.at (i:=0) rfl) ?_;refine ρ ?_;refine mkn EBg i om (by unfold maxLen;omega) ?_;intro f6 B bf au _;rw[made3]at au;have ad:=ae.trans bf;have bb:=bc.ext bf;have bq:=Z.ext ad;have bo:=a9.ext ad;have bn:=b8.ext bf;have ee:=c0.trans ad;refine ρ ?_;refine ld (bb.at (i:=0) rfl) ?_;have ed:w'.heap.size<=a8:=cy;have f8:a1<w7.heap.size:=a9.lt;have f9:a8<w7.heap.size:=Z.lt
 have l3:b3<w7.heap.size:=b7.lt;have f7:w7.heap.size<=a4:=nL dh.size cw;have df:a4<bt.heap.size:=b8.lt;have c7:w'.heap.size<=a1:=nL c1.size cx;have e9:Qo i (λ_=>[Value.int .i64 0,.int .u32 0,.int .i64 0])=Qo i (Uw ord (λ_=>0) (λ_=>0) 0):=Jbz λv _=>by simp[Uw]
 have e0:∀ e∈es,e<2^i:=h.lt;rw[e9]at au;refine ρ ?_;refine Kh (fun (j:Nat) (a:Nat->Nat) (kf:Nat->Nat) (pf:Nat->Int)=>[(3,.pointer (some ⟨b3,0,none⟩)),(12,.pointer (some ⟨a8,0,none⟩)),(13,.pointer (some ⟨a1,0,none⟩)),(16,.pointer (some ⟨a4,0,none⟩)),(17,.slice B i i),(96,.int .i64 (i:Int)),(97,.int .i64 (j:Int))])
  (λj a kf pf aa=>j<=i/\Ext w' aa/\w7.heap.size<=aa.heap.size/\bt.heap.size<=aa.heap.size/\Blk aa b3 48 (grC A c i es)/\Blk aa a8 164 (Vm o)/\Blk aa a1 164 (Vm q)/\Blk aa a4 165 (Xj a)/\aa.ownsRow bt.heap.size 66 3 (.slice B i i) i (Qo i (Uw ord kf pf j)) /\
   (∀ u,u<32->a u<4294967296)/\(∀ u,u<i->∀ x,(a u).testBit x=Gv (nb0 i es) (ord.take j) u x)/\∀ v,v<i->plc ord v<j->BagAt i es ord v (kf v) (pf v)) (λj _ _ _=>i-j) 0 a0 (λ_=>0) (λ_=>0) sB
  ⟨Nat.zero_le _,bu.trans ad,ad.size,bf.size,bb,bq,bo,bn,au,λu hu=>(e4 u hu).1,λu hu x=>?_,λv _ hv=>om⟩ ?_
 .rw[(e4 u om).2];rfl
 clear bb bq bo bn au bc b7 Z a9 e9 b8 af;rintro j a kf pf aa ⟨hj,b2,em,ec,c9,bp,ax,bm,ar,cz,bz,e1⟩;refine ρ ?_;refine ci (λhc=>?_) (λhc=>?_)
 .have lj:j<i:=by have:=oT hc;omega
  clear hc;have co:j<32:=om
  obtain⟨v,ev⟩:∃ v,v=ord.getD j 0:=⟨_,rfl⟩;have b4:v<i:=by rw[ev];exact cr j lj
  have b5:v<32:=om
  have d2:v∈ord:=b6.2 b4;have ds:pre ord v=ord.take j:=by rw[ev];exact Jsz a3 (c4.symm ▸ lj)
  have f0:plc ord v=j:=by rw[ev];exact Jfv a3 (c4.symm ▸ lj)
  obtain⟨G,br⟩:∃ G,G=Gv (nb0 i es) (ord.take j):=⟨_,rfl⟩;have am:∀ x,Vx (nb0 i es) ord v x=G v x:=λx=>by rw[Vx,ds,br]
  have dx:NbInv (ord.take j) G:=by rw[br];exact(Qpb e0).at (a3.sublist (List.take_sublist _ _))
  have d3:v ∉ ord.take j:=by rw[<-ds];exact(Qds d2).choose_spec.2
  have fc:∀ x,G v x=true->x≠v:=λx U=>(dx.gone v x d3 U).2;have dw:∀ x,G v x=true->x<i:=λx U=>by rw[<-am]at U;exact Jhd (λu x h=>(Jkx e0 h).2.1) U
  rw[<-br]at bz;have c5:=cz v b5;refine ρ ?_;refine ixb j co ?_;refine ρ ?_;refine ld (bp.atc (Ik co)) ?_;rw[ho j lj,<-ev];refine ρ ?_;refine ixb v b5 ?_;refine ρ ?_;refine ld (bm.atc (Ka b5)) ?_;refine ρ ?_;refine bld (Xkz _ _ _) ?_;refine ρ ?_;refine alc zBag ?_;intro f5 ay dk e2 ca;refine ρ ?_;refine stW ca ?_;intro de ca f2 dj;have D:Ext aa de:=dj aa dk e2;have d9:=c9.ext D;refine ρ ?_;refine ld (d9.at (i:=0) rfl) ?_;refine ρ ?_;refine Xf (fun (u:Nat) (a':Nat->Nat) (O:Int)=>[(3,.pointer (some ⟨b3,0,none⟩)),(12,.pointer (some ⟨a8,0,none⟩)),(13,.pointer (some ⟨a1,0,none⟩)),(16,.pointer (some ⟨a4,0,none⟩)),(17,.slice B i i),(96,.int .i64 (i:Int)),(97,.int .i64 (j:Int)),(19,.int .i64 (v:Int)),(20,.pointer (some ⟨ay,0,none⟩)),(109,.int .i64 (i:Int)),(110,.int .i64 (u:Int))])
   (λu a' O a5=>u<=i/\GrN (λk=>k=a4∨k=ay) de a5/\Blk a5 a4 165 (Xj a')/\Blk a5 ay 66 [.int .i64 (v:Int),.int .u32 (a v:Int),.int .i64 O] /\
    (∀ x,x<32->a' x<4294967296)/\(∀ x,x<i->∀ y,(a' x).testBit y=if x<u then Kt v G x y else G x y) /\
    ((O = -1/\∀ x,x<u->G v x=false)∨∃ p:Nat,O=p/\p<u/\G v p=true/\∀ x,x<u->G v x=true->plc ord p<=plc ord x)) (λu _ _=>i-u) 0 a (-1) sB
   ⟨Nat.zero_le _,GrN.refl _ _,bm.ext D,ca,cz,λx U y=>by rw[if_neg om];exact bz x U y,.inl ⟨rfl,λx U=>om⟩⟩ ?_
  rintro u a' O a5 ⟨hu,a6,aw,a7,ap,bi,aj⟩;refine ρ ?_;refine ci (λhc=>?_) (λhc=>?_)
  .have lu:u<i:=by have:=oT hc;omega
   clear hc;have a2:u<32:=om
   refine ρ ?_;refine ld (a7.at (i:=1) rfl) ?_;refine ρ ?_;refine Jqt (s:=a v) (v:=u) om ?_;refine ρ ?_;refine ci (λhc=>?_) (λhc=>?_)
   .rw[Qvk c5,bz v b4]at hc;have bw:G v u=false:=by simpa using hc
    refine ρ ?_;refine Qn (u+1) a' O sO ⟨om,a6,aw,a7,ap,λx U y=>?_,?_⟩ om
    .rw[bi x U];by_cases e:x=u
     .subst e;rw[if_neg om,if_pos om,Kt,if_neg (by rw[bw];simp)]
     by_cases J:x<u
     .rw[if_pos J,if_pos om]
     rw[if_neg J,if_neg om]
    rcases aj with⟨J,h2⟩|⟨p,J,h2,h3,h4⟩
    .refine .inl ⟨J,λx U=>?_⟩;by_cases e:x=u
     .rw[e];exact bw
     exact h2 x om
    refine .inr ⟨p,J,om,h3,λx U ao=>?_⟩;by_cases e:x=u
    .rw[e,bw]at ao;cases ao
    exact h4 x om ao
   rw[Qvk c5,bz v b4]at hc;have bw:G v u=true:=by simpa using hc
   have cp:Ext w' a5:=a6.old (b2.trans D) (λk hk=>by
    rcases hk with rfl|rfl
    .have:=bu.size;omega
    have:=b2.size;omega)
   have cn:Blk a5 a1 164 (Vm q):=Jr (ax.ext D) a6 (by
    rintro(h|h)
    .omega
    have:=ax.lt;omega)
   refine ρ ?_;refine Xn (fun (t:Bool)=>[(3,.pointer (some ⟨b3,0,none⟩)),(12,.pointer (some ⟨a8,0,none⟩)),(13,.pointer (some ⟨a1,0,none⟩)),(16,.pointer (some ⟨a4,0,none⟩)),(17,.slice B i i),(96,.int .i64 (i:Int)),(97,.int .i64 (j:Int)),(19,.int .i64 (v:Int)),(20,.pointer (some ⟨ay,0,none⟩)),(109,.int .i64 (i:Int)),(110,.int .i64 (u:Int)),(21,.int .i64 (u:Int)),(131,.bool t)])
    (λt bs=>Ext a5 bs/\(t=true->O = -1∨∃ p:Nat,O=p/\plc ord u<plc ord p)/\(t=false->∃ p:Nat,O=p/\plc ord p<=plc ord u)) ?_ ?_
   .have az:Ext a5 a5.drew:=(Ext.refl a5).drew;have ag:=a7.ext az;have cb:=cn.ext az;refine dr [(0,0),(0,1),(0,2),(0,3),(0,4),(0,5),(0,6),(0,7),(0,8),(0,9),(0,10),(0,11),(0,12)] kr ?_;refine ρd ?_;refine dld (ag.at (i:=2) rfl) ?_;refine ρd ?_;refine dki 122 (λJ=>?_) (λJ=>?_)
    .have h2:O<0:=oT J;have h3:O = -1:=by
      rcases aj with⟨h4,_⟩|⟨p,h4,_⟩
      .exact h4
      omega
     refine ρd ?_;refine ρ ?_;exact Jg true sB ⟨az,λ_=>.inl h3,λe=>by cases e⟩
    have h2:¬ O<0:=oF J;obtain⟨p,h4,h5,h6,h7⟩:∃ p:Nat,O=p/\p<u/\G v p=true/\∀ x,x<u->G v x=true->plc ord p<=plc ord x:=by
     rcases aj with⟨h4,_⟩|h4
     .omega
     exact h4
    subst h4;refine ρd ?_;refine dixb u a2 ?_;refine ρd ?_;refine dld (cb.atc (Ik a2)) ?_;refine ρd ?_;refine dld (ag.at (i:=2) rfl) ?_;refine ρd ?_;refine dixb p (show p<32 by omega) ?_;refine ρd ?_;refine dld (cb.atc (Ik (show p<32 by omega))) ?_;rw[dq u lu,dq p om];refine ρd ?_;refine ρ ?_;refine Jg _ sB ⟨az,λe=>.inr ⟨p,rfl,?_⟩,λe=>⟨p,rfl,?_⟩⟩
    .have:=oT e;omega
    have:=oF e;omega
   rintro t bs ⟨b1,ek,ej⟩;have ac:=a7.ext b1;refine ρ ?_;refine Xn (fun (ai:Int)=>[(3,.pointer (some ⟨b3,0,none⟩)),(12,.pointer (some ⟨a8,0,none⟩)),(13,.pointer (some ⟨a1,0,none⟩)),(16,.pointer (some ⟨a4,0,none⟩)),(17,.slice B i i),(96,.int .i64 (i:Int)),(97,.int .i64 (j:Int)),(19,.int .i64 (v:Int)),(20,.pointer (some ⟨ay,0,none⟩)),(109,.int .i64 (i:Int)),(110,.int .i64 (u:Int)),(21,.int .i64 (u:Int))])
    (λai an=>GrN (λk=>k=ay) bs an/\Blk an ay 66 [.int .i64 (v:Int),.int .u32 (a v:Int),.int .i64 ai]/\((ai = -1/\∀ x,x<u+1->G v x=false)∨∃ p:Nat,ai=p/\p<u+1/\G v p=true/\∀ x,x<u+1->G v x=true->plc ord p<=plc ord x)) ?_ ?_
   .refine ci (λht=>?_) (λht=>?_)
    .refine ρ ?_;refine sto (p:=⟨ay,2,none⟩) (ac.cell 2) (ac.frozen _) ?_;refine ρ ?_;refine Jg (u:Int) sB ⟨GrN.set _ rfl,ac.set 2 _,.inr ⟨u,rfl,Nat.lt_succ_self u,bw,λx U ao=>?_⟩⟩;by_cases e:x=u
     .rw[e];exact Nat.le_refl _
     rcases aj with⟨_,h2⟩|⟨p,J,h2,h3,h4⟩
     .rw[h2 x om]at ao;cases ao
     have h5:=h4 x om ao;rcases ek ht with h6|⟨p',h6,h7⟩
     .omega
     have:p=p':=om
     subst this;omega
    obtain⟨p',h6,h7⟩:=ej ht;refine ρ ?_;refine Jg O sB ⟨GrN.refl _ _,ac,.inr ?_⟩;rcases aj with⟨J,h2⟩|⟨p,J,h2,h3,h4⟩
    .omega
    have:p=p':=om
    subst this;refine⟨p,J,om,h3,λx U ao=>?_⟩;by_cases e:x=u
    .rw[e];exact h7
    exact h4 x om ao
   rintro ai an ⟨cu,ck,d6⟩;have bh:a4≠ay:=om
   have cm:Blk an a4 165 (Xj a'):=Jr (aw.ext b1) cu bh;have az:Ext an an.drew:=(Ext.refl an).drew;have av:=cm.ext az;have ag:=ck.ext az;have e3:=ap u a2;have ea:=Jjm a2;have ch:=Jjm b5;refine ρ ?_;refine drN (λ_=>False) 15 [(0,0),(0,1),(0,2),(0,3),(0,4),(0,5),(0,6),(0,7),(0,8),(0,9),(0,10),(0,11),(0,12),(0,13),(2,14)] kr ?_;refine ρn ?_;refine nixb u a2 ?_;refine ρn ?_;refine nld (Qy (av.atc (Ka a2)) (λe=>e)) ?_;refine ρn ?_;refine nld (Qy (ag.at (i:=1) rfl) (λe=>e)) ?_;refine ρn ?_;refine Jgf a2 ?_;refine ρn ?_;refine Jgf b5 ?_;refine ρn ?_;refine nixb u a2 ?_;refine ρn ?_;refine Xu ?_;have c2:=Jkr e3 c5;have cq:=Jkr ea ch;obtain⟨nw,db⟩:∃ nw,nw=Ue (a' u ||| a v) (2^u ||| 2^v):=⟨_,rfl⟩;have ep:nw<4294967296:=by rw[db];exact Qvv c2
   have eb:bits .andNot .u32 (bits .or .u32 (a' u:Int) (a v:Int)) (bits .or .u32 ((2^u:Nat):Int) ((2^v:Nat):Int))=(nw:Int):=by
    rw[Jqf e3 c5,Jqf ea ch,Jvc c2 cq,db]
   refine sto (p:=⟨a4,u,none⟩) (av.cell u |>.trans (Ka a2)) (av.frozen _) ?_;rw[eb];have bl:=av.set u (.int .u32 (nw:Int));rw[Jdt a' a2]at bl;have dz:GrN (λk=>k=a4) an.drew (an.drew.setCell ⟨a4,u,none⟩ (.int .u32 (nw:Int))):=GrN.set _ rfl;refine ω5 ?_;refine Uh ?_;refine ρn ?_;refine ρ ?_;refine Qn (u+1) (upd a' u nw) ai sO ⟨om,?_,bl,ag.far (λe=>bh e.symm) _,λx U=>?_,λx U y=>?_,d6⟩ om
   .exact((a6.trans (GrN.ext b1)).trans (cu.mono λk _ hk=>.inr hk)).trans ((GrN.ext az).trans (dz.mono λk _ hk=>.inl hk))
   .by_cases e:x=u
    .rw[e,Jt];exact ep
    rw[Jc _ _ e];exact ap x U
   by_cases e:x=u
   .subst e;rw[Jt,if_pos (Nat.lt_succ_self x),db,Jct c2 cq,Nat.testBit_or,Nat.testBit_or,Jvr,Jvr,bi x U,if_neg (Nat.lt_irrefl x),bz v b4,Kt,if_pos bw];rw[Qkl x y,Qkl v y];cases G x y<;>cases G v y<;>cases (y != x)<;>cases (y != v)<;>rfl
   rw[Jc _ _ e,bi x U];by_cases J:x<u
   .rw[if_pos J,if_pos om]
   rw[if_neg J,if_neg om]
  have ei:u=i:=by have:=oF hc;omega
  subst ei;clear hc;have cp:Ext w' a5:=a6.old (b2.trans D) (λk hk=>by
   rcases hk with rfl|rfl
   .have:=bu.size;omega
   have:=b2.size;omega)
  have b9:∀ {g t:Nat} {cs:List Value},Blk aa g t cs->g≠a4->Blk a5 g t cs:=λhB J=>Jr (hB.ext D) a6 (by
   rintro(h|h)
   .exact J h
   have:=hB.lt;omega)
  have aq:a5.ownsRow bt.heap.size 66 3 (.slice B u u) u (Qo u (Uw ord kf pf j)):=Qj (Jh ar D) a6 (λg eg hk=>by
   obtain⟨_,_,_,_,c6⟩:=Jv ar;have h5:=c6 g eg;rcases hk with rfl|rfl<;>omega)
  refine ρ ?_;refine ldW a7 ?_;refine ρ ?_;refine ixq 3 v (Rd.own aq) b4 ?_;refine ρ ?_;refine stoE (cs:=[.int .i64 (v:Int),.int .u32 (a v:Int),.int .i64 O]) aq b4 ?_ Jgc;intro bs ba bg;rw[Qtt (λv _=>Xwr ord kf pf j v) b4 rfl]at ba;have eg:Qo u (upd (Uw ord kf pf j) v [.int .i64 (v:Int),.int .u32 (a v:Int),.int .i64 O])=Qo u (Uw ord (upd kf v (a v)) (upd pf v O) (j+1)):=by
   refine Jbz λx U=>?_;by_cases e:x=v
   .subst e;rw[Jt,Uw,if_pos om];simp only[Zq,Jt]
   rw[Jc _ _ e];have du:plc ord x≠j:=λe'=>by
    have J:=(Jzq a3 (b6.2 U)).2;rw[e',<-ev]at J;exact e J.symm
   unfold Uw;by_cases J:plc ord x<j
   .rw[if_pos J,if_pos om];simp only[Zq,Jc _ _ e]
   rw[if_neg J,if_neg om]
  rw[eg]at ba;have ab:∀ {g t:Nat} {cs:List Value},Blk a5 g t cs->g<bt.heap.size->Blk bs g t cs:=λhB J=>hB.grown bg (λe=>by
   obtain⟨_,_,_,_,c6⟩:=Jv aq;have h5:=c6 _ e.symm;omega)
  have b1:Ext w' bs:=Ja cp bg (λg eg=>by
   obtain⟨_,_,_,_,c6⟩:=Jv aq;have h5:=c6 g eg;have:=bu.size;have:=ae.size;omega)
  have f4:=ae.size;refine ρ ?_;refine Ym (j+1) a' (upd kf v (a v)) (upd pf v O) sO ⟨om,b1,by have:=D.size;have:=a6.size;have:=bg.size;omega,by have:=D.size;have:=a6.size;have:=bg.size;omega,ab (b9 c9 om) om,ab (b9 bp om) om,ab (b9 ax om) om,ab aw df,ba,ap,λx U y=>?_,λx U et=>?_⟩ om
  .rw[bi x U,if_pos U,Qr 0 (c4.symm ▸ lj),<-ev,Qnz,<-br];rfl
  by_cases e:x=v
  .subst e;rw[Jt,Jt];refine⟨c5,λy=>by rw[bz x b4,am],?_⟩;rcases aj with⟨J,h2⟩|⟨p,J,h2,h3,h4⟩
   .refine .inl ⟨J,λy=>?_⟩;rw[am];cases hb:G x y with
    | false=>rfl
    | true=>exact absurd (h2 y (dw y hb)) (by rw[hb];simp)
   exact .inr ⟨p,J,by rw[am];exact h3,λy hy=>h4 y (dw y (by rw[<-am];exact hy)) (by rw[<-am];exact hy)⟩
  rw[Jc _ _ e,Jc _ _ e];refine e1 x U ?_;have du:plc ord x≠j:=λe'=>by
   have J:=(Jzq a3 (b6.2 U)).2;rw[e',<-ev]at J;exact e J.symm
  omega
 have ew:j=i:=by have:=oF hc;omega
 subst ew;clear hc;refine ρ ?_;refine Xb ⟨be.trans b2,B,kf,pf,rfl,?_,λv hv=>?_⟩
 .have e:Qo j (Uw ord kf pf j)=Qo j (Zq kf pf):=Jbz λv hv=>by
   have:=(Jzq a3 (b6.2 hv)).1;rw[Uw,if_pos om]
  rw[e]at ar;exact Kj ar (by have:=c0.size;have:=ae.size;omega)
 have:=e1 v hv (by have:=(Jzq a3 (b6.2 hv)).1;omega);rw[<-ak];exact this
open Go.RowKit Pl Go.Wk
variable {ca cb n v:Nat}{pf:Nat->Int}
theorem Qzw{kf:Nat->Nat}(hv:v<32)(hk:kf v<4294967296)(w:World): Ret Tryz.prog 23 [.agg (Zq kf pf v).toArray] w λu w'=>u=.int .u32 ((kf v ||| 2^v:Nat):Int)/\Ext w w':=by
 refine Jz Tryz.func23 Tryz.ntmps23 rfl kr rfl ?_;refine ρ ?_;refine bx (cs:=Zq kf pf v) ?_;intro w1 b B G D;refine ρ ?_;refine ld (D.at (i:=0) rfl) ?_;refine ρ ?_;refine ld (D.at (i:=0) rfl) ?_;refine ρ ?_;refine cf ?_ ?_
 .grind
 have j:Ext w1 w1.drew:=(Ext.refl w1).drew;have y:=D.ext j;refine ρ ?_;refine dr [(0,0),(0,1),(0,2),(0,3),(0,4),(0,5),(0,6)] kr ?_;refine ρd ?_;refine dld (y.at (i:=1) rfl) ?_;refine ρd ?_;refine dld (y.at (i:=0) rfl) ?_;refine ρd ?_;refine dsl32 hv ?_;refine ρd ?_;refine ρ ?_;refine Jq ⟨?_,B.trans j⟩;rw[Jqf hk (Jjm hv)]
def Jmm(n m:Nat)(vars:Nat->List Nat)(rs:Nat->List Row)(s:Nat)(l:List Row): Prop:=Lt [] l/\(∀ x,x∈l↔∃ z:Row,z.length=n/\x=pmR (bk s 32) z/\Jqj m vars rs s z)/\l.length<=65536
def Jvd(s:Nat)(l:List Row): Atm:=⟨nz (bk s 32),(bk s 32).length,l⟩
theorem Xwp{w:World}{ts:List TA}{Aa B:Option Addr}{vars:Nat->List Nat}{rs:Nat->List Row}{kf:Nat->Nat}(hn32:n<=32)(hok:∀ v,v<n->MOk n ts vars rs (kf v ||| 2^v))(hR:Rd w 3 Aa ts.length (atC ts))(hle:ts.length<=ca)(hat:∀ p∈ts,AtV w p.1 p.2)(hB:Rd w 3 B n (Qo n (Zq kf pf)))(hk:∀ v,v<n->kf v<4294967296)(hcap:∀ v,v<n->∀ l:List Row,Lt [] l->(∀ x∈l,∃ z:Row,z.length=n/\x=pmR (bk (kf v ||| 2^v) 32) z/\Jqj ts.length vars rs (kf v ||| 2^v) z)->l.length<=65536):
  Ret Tryz.prog 29 [.int .i64 (n:Int),.slice B n cb,.slice Aa ts.length ca] w λu w'=>Ext w w'/\∃(va:Value) (st:Int) (R:Nat->List Row),u=.tuple #[va,.int .i64 st,.int .i64 0] /\
   Off (λk=>k<w.heap.size) w' (λx=>GV 3 AtG x va ((List.range n).map λv=>Jvd (kf v ||| 2^v) (R v)))/\∀ v,v<n->Jmm n ts.length vars rs (kf v ||| 2^v) (R v):=by
 refine Jz Tryz.func29 Tryz.ntmps29 rfl kr rfl ?_;refine ρ ?_;refine Kh (fun (v:Nat) (va:Value) (st:Int) (R:Nat->List Row)=>[(0,.int .i64 (n:Int)),(2,.slice Aa ts.length ca),(9,va),(10,.int .i64 st),(16,.slice B n cb),(17,.int .i64 (n:Int)),(18,.int .i64 (v:Int))])
  (λv va st R w'=>v<=n/\Ext w w'/\OwnG 82 3 AtG w' w.heap.size va ((List.range v).map λu=>Jvd (kf u ||| 2^u) (R u))/\∀ u,u<v->Jmm n ts.length vars rs (kf u ||| 2^u) (R u)) (λv _ _ _=>n-v) 0 (.slice none 0 0) 0 (λ_=>[]) sB
  ⟨Nat.zero_le _,Ext.refl _,OwnG.nil _ _,λu hu=>om⟩ ?_
 rintro v va st R w1 ⟨hv,G,a5,az⟩;refine ρ ?_;refine ci (λhc=>?_) (λhc=>?_)
 .have lv:v<n:=by have:=oT hc;omega
  clear hc;have ae:=hB.ext G;have a4:∀ j u,(Zq kf pf v)[j]?=some u->w1.cell? ((adr B (v*3)).add j)=some u:=λj u hu=>by
   have hj:j<3:=by grind [Nat.lt_or_ge,List.getElem?_eq_none,Zq]
   rw[Gh];exact ae.cell ((Jhp (sz:=3) (λ_ _=>rfl) lv hj).trans hu)
  refine ρ ?_;refine ixq 3 v ae lv ?_;refine ρ ?_;refine lds (cs:=Zq kf pf v) a4 ?_;refine ρ ?_;refine alc zBag ?_;intro w2 bc ar ac O;refine ρ ?_;refine stb (cs':=Zq kf pf v) O ?_ Jgc;intro w3 O b7 aq;have a8:Ext w1 w3:=aq w1 ar ac;refine ρ ?_;refine lds (cs:=Zq kf pf v) (λj u hu=>O.at hu) ?_;refine ρ ?_;refine cl (Qzw om (hk v lv) w3) ?_;rintro u w4 ⟨rfl,ap⟩;have D:=a8.trans ap;have i:=G.trans D;refine ρ ?_;refine cl (Qpv (hok v lv) (hR.ext i) hle (λp hp=>(hat p hp).ext i) (hcap v lv)) ?_;rintro u w5 ⟨ao,⟨p1,p2,p3⟩,aj,l,rfl,a1,av,aa,aw⟩;have b2:=a1.here;obtain⟨⟨PA,pc,ah,b5,b4,b3⟩,ag,U⟩:=id b2;simp only at ah ag;obtain⟨a6,PG,a3,_,af,_⟩:=id U;simp only at af;subst ah;subst ag;subst af;refine ρ ?_;refine alc Yg ?_;intro w6 bb an ab J;refine ρ ?_;refine stb (cs':=[.slice PA (nz (bk (kf v ||| 2^v) 32)).length pc,.int .i64 ((bk (kf v ||| 2^v) 32).length:Int),.slice PG a6.length a3]) J ?_ (Jjq rfl)
  intro w7 J hg7 am;have Z:Ext w5 w7:=am w5 an ab;refine ρ ?_;refine ldW J ?_;refine ρ ?_;refine bsl (Jlx _ _ _ PA PG _ pc _ a3 _ rfl rfl rfl) ?_;intro w8 b8 a7 b9 b1;have y:=((D.trans ao).trans Z).trans a7;obtain⟨_,_,_,_,ad⟩:=a5.form;have hΦ:Off (Yp w.heap.size va) w8 (λu=>AtG u [.slice PA (nz (bk (kf v ||| 2^v) 32)).length pc,.int .i64 ((bk (kf v ||| 2^v) 32).length:Int),.slice PG a6.length a3] (Jvd (kf v ||| 2^v) l)):=by
   refine((a1.imp λu h=>⟨_,rfl,h⟩).mono λk _ ax=>?_).ext (Z.trans a7);rcases ax with h'|h'
   .exact nM h' i.size
   exact nM (ad k h').2 D.size
  refine ρ ?_;refine apG EA (Φ:=AtG) (a5.ext y) b1 rfl (Jjq rfl) hΦ (by simp;omega) om (G.trans y).size ?_;intro ai w9 ba ay b6;have ak:Ext w w9:=Ja (G.trans y) ay (λg eg=>(ad g eg).1);obtain⟨a2,a9⟩:∃ a2:Int,a2=IntKind.i64.wrap (st+aj):=⟨_,rfl⟩;refine ρ ?_;rw[<-a9];refine ρ ?_;refine Ym (v+1) ai a2 (upd R v l) sO ⟨om,ak,?_,λu hu=>?_⟩ om
  .rw[List.range_succ,List.map_append,List.map_singleton,Jt];grind [List.range,Jvd,kf,upd,List.map_congr_left,List.mem_range.1,Jc]
  by_cases e:u=v
  .subst e;rw[Jt];exact⟨av,aa,aw⟩
  repeat grind [Jc]
 have au:v=n:=by have:=oF hc;omega
 subst au;clear hc;refine ρ ?_;exact Jwn ⟨G,va,st,R,rfl,a5.off (by simp;omega),az⟩
open Go.RowKit Pl Go.Wk
variable {a b l os:List UInt32}{c i k m n x y:Nat}
theorem Jdh(c:UInt32)(h:k<l.length): val (l.set k c)+4294967296^k*(l.getD k 0).toNat=val l+4294967296^k*c.toNat:=by
 induction l generalizing k with
 | nil=>simp at h
 | cons x l ih=>
  cases k with
  | zero=>simp[val];omega
  | succ k=>
   have:=ih (k:=k) (by simpa using h);simp only[List.set_cons_succ,val,List.getD_cons_succ,Nat.pow_succ];grind
structure MulO(a b:List UInt32)(i:Nat)(os:List UInt32): Prop where
 len:os.length=a.length+b.length
 val:val os=val (a.take i)*val b
 zero:∀ k,i+b.length<=k->os.getD k 0=0
structure MulI(a b:List UInt32)(i j c:Nat)(os:List UInt32): Prop where
 len:os.length=a.length+b.length
 small:c<4294967296
 val:val os+4294967296^(i+j)*c=Pl.val (a.take i)*Pl.val b+4294967296^i*(a.getD i 0).toNat*Pl.val (b.take j)
 zero:∀ k,i+b.length<=k->os.getD k 0=0
theorem Qxq(c:UInt32)(h:k≠m): (l.set k c).getD m 0=l.getD m 0:=by grind
theorem Jxt(hx:x<4294967296)(hy:y<4294967296): x*y<=18446744065119617025:=by
 have:=Nat.mul_le_mul (show x<=4294967295 by omega) (show y<=4294967295 by omega);omega
theorem MulO.first: MulO a b 0 (List.replicate (a.length+b.length) 0):=by
 refine⟨by simp,?_,λk _=>?_⟩
 .have:∀ n,Pl.val (List.replicate n (0:UInt32))=0:=λn=>by
   induction n with
   | zero=>rfl
   | succ n ih=>rw[List.replicate_succ];simp[Pl.val,ih]
  rw[this];simp[Pl.val]
 repeat grind
theorem MulO.start(h:MulO a b i os): MulI a b i 0 0 os :=
 ⟨h.len,om,by rw[h.val];simp[Pl.val],h.zero⟩
theorem MulI.step{j s:Nat}(h:MulI a b i j c os)(hi:i<a.length)(hj:j<b.length)(hs:s=c+((a.getD i 0).toNat*(b.getD j 0).toNat+(os.getD (i+j) 0).toNat)):
  MulI a b i (j+1) (s / 4294967296) (os.set (i+j) (UInt32.ofNat s))/\s<18446744073709551616:=by
 obtain⟨h1,h2,h3,h4⟩:=h;have G:(a.getD i 0).toNat<4294967296:=(a.getD i 0).toNat_lt;have D:(b.getD j 0).toNat<4294967296:=(b.getD j 0).toNat_lt;have O:(os.getD (i+j) 0).toNat<4294967296:=(os.getD (i+j) 0).toNat_lt;have hm:=Jxt G D;have u:s<18446744073709551616:=om
 refine⟨⟨by grind,om,?_,λk hk=>by grind⟩,u⟩;have e:=Jdh (UInt32.ofNat s) (show i+j<os.length by omega);rw[UInt32.toNat_ofNat']at e;rw[Zr];generalize hX:(a.getD i 0).toNat=X at *
 generalize hY:(b.getD j 0).toNat=Y at *
 generalize hZ:(os.getD (i+j) 0).toNat=Z at *
 generalize Pl.val (os.set (i+j) (UInt32.ofNat s))=V' at *
 generalize Pl.val os=V at *
 generalize Pl.val (b.take j)=W at *
 generalize Pl.val (a.take i)*Pl.val b=U at *
 have B:4294967296^(i+(j+1))*(s / 4294967296)=4294967296^(i+j)*(4294967296*(s / 4294967296)):=by grind
 have y:4294967296^i*X*(W+4294967296^j*Y)=4294967296^i*X*W+4294967296^(i+j)*(X*Y):=by grind
 have J:4294967296^(i+j)*(s % 2^32)+4294967296^(i+j)*(4294967296*(s / 4294967296))=4294967296^(i+j)*c+(4294967296^(i+j)*(X*Y)+4294967296^(i+j)*Z):=by
  rw[<-Nat.mul_add,<-Nat.mul_add,<-Nat.mul_add];congr 1
  omega
 rw[B,y];omega
theorem MulI.last(h:MulI a b i b.length c os)(hi:i<a.length): MulO a b (i+1) (os.set (i+b.length) (UInt32.ofNat c)):=by
 obtain⟨D,B,u,j⟩:=h;refine⟨by grind,?_,λk y=>by grind [Qxq]⟩;have e:=Jdh (UInt32.ofNat c) (show i+b.length<os.length by omega);rw[j _ (Nat.le_refl _),UInt32.toNat_ofNat',show c % 2^32=c by omega,show(0:UInt32).toNat=0 from rfl,Nat.mul_zero,Nat.add_zero]at e;rw[e,u,List.take_length,Zr,Nat.add_mul]
theorem Qpk{z:Nat}(hc:c<4294967296)(hx:x<4294967296)(hy:y<4294967296)(hz:z<4294967296):
  IntKind.u64.wrap ((c:Int)+IntKind.u64.wrap (IntKind.u64.wrap (IntKind.u64.wrap (x:Int)*IntKind.u64.wrap (y:Int))+IntKind.u64.wrap (z:Int)))=((c+(x*y+z):Nat):Int):=by
 have i:=Jxt hx hy;have w:∀ n:Nat,n<18446744073709551616->IntKind.u64.wrap (n:Int)=(n:Int):=λn hn=>by rw[IntKind.wrap_u64];omega
 rw[w x om,w y om,w z om,<-Int.natCast_mul,w _ om,<-Int.natCast_add,w _ om,<-Int.natCast_add,w _ om]
theorem Yr{v u:Value}{w:World}(hv:NatV w v n)(hu:NatV w u m)(hln:(Jj n).length<=1000)(hlm:(Jj m).length<=1000): Ret Tryz.prog 104 [v,u] w λr w'=>NatV w' r (n*m)/\Fresh w r/\Ext w w':=by
 refine Jz Tryz.func104 Tryz.ntmps104 rfl kr rfl ?_;refine ρ ?_;refine cl (Za hv) ?_;rintro v' w' ⟨⟨A,rfl,ha⟩,rfl⟩;refine ρ ?_;refine cl (Za hu) ?_;rintro u' J ⟨⟨B,rfl,hb⟩,rfl⟩;generalize hL:(Jj n).length=L at *
 generalize hM:(Jj m).length=M at *
 refine ρ ?_;refine mkn EN (L+M) om (by unfold maxLen;omega) ?_;intro w1 O ab ah hO;have a7:Xd w1 J.heap.size (.slice O (L+M) (L+M)) (List.replicate (L+M) 0):=by
  have e:(madeCells (Value.int .u32 0).cells ((L+M)*1)).toList=Nc (List.replicate (L+M) 0):=by rw[Nat.mul_one,<-Jqh];exact Vw _ _
  grind
 refine ρ ?_;refine Qq (fun (i:Nat) (y:List UInt32)=>[(0,.slice A L L),(1,.slice B M M),(5,.slice O (L+M) (L+M)),(20,.int .i64 (L:Int)),(21,.int .i64 (i:Int))])
  (λi y w2=>i<=L/\Ext J w2/\MulO (Jj n) (Jj m) i y/\Xd w2 J.heap.size (.slice O (L+M) (L+M)) y) (λi _=>L-i) 0 (List.replicate (L+M) 0) sB
  ⟨Nat.zero_le _,ab,by grind [MulO.first],a7⟩ ?_
 rintro i y w2 ⟨hi,a6,hI,a5⟩;refine ρ ?_;refine ci (λh=>?_) (λh=>?_)
 .have li:i<L:=by have:=oT h;omega
  clear h;refine ρ ?_;refine Xf (fun (j c:Nat) (y:List UInt32)=>[(0,.slice A L L),(1,.slice B M M),(5,.slice O (L+M) (L+M)),(6,.int .i64 (i:Int)),(7,.int .u64 (c:Int)),(20,.int .i64 (L:Int)),(21,.int .i64 (i:Int)),(25,.int .i64 (M:Int)),(26,.int .i64 (j:Int))])
   (λj c y w3=>j<=M/\Ext J w3/\MulI (Jj n) (Jj m) i j c y/\Xd w3 J.heap.size (.slice O (L+M) (L+M)) y) (λj _ _=>M-j) 0 0 y sB
   ⟨Nat.zero_le _,a6,hI.start,a5⟩ ?_
  clear hI a5;rintro j c y w3 ⟨hj,a1,hI,U⟩;have D:y.length=L+M:=by rw[hI.len,hL,hM]
  refine ρ ?_;refine ci (λh=>?_) (λh=>?_)
  .have lj:j<M:=by have:=oT h;omega
   clear h;have Z:Ext w3 w3.drew:=(Ext.refl w3).drew;have aa:=ha.ext (a1.trans Z);have a9:=hb.ext (a1.trans Z);have G:=Jh U Z;rw[D]at G;have a4:Rd w3.drew 1 O (L+M) (Nc y):=Rd.own G;refine ρ ?_;refine dr [(0,0),(0,1),(0,2),(0,3),(0,4),(0,5),(0,6),(0,7),(0,8),(0,9),(0,10),(0,11),(0,12),(0,13),(0,14),(0,15),(0,16),(0,17),(0,18),(0,19),(0,20),(0,21)] kr ?_;refine ρd ?_;refine dix i aa li ?_;refine ρd ?_;refine dld (aa.cell (Qm (show i<(Jj n).length by omega))) ?_;refine ρd ?_;refine dix j a9 lj ?_;refine ρd ?_;refine dld (a9.cell (Qm (show j<(Jj m).length by omega))) ?_;refine ρd ?_;refine dix (i+j) a4 om ?_;refine ρd ?_;refine dld (a4.cell (Qm (show i+j<y.length by omega))) ?_;refine ρd ?_;have hx:((Jj n).getD i 0).toNat<4294967296:=((Jj n).getD i 0).toNat_lt;have hy:((Jj m).getD j 0).toNat<4294967296:=((Jj m).getD j 0).toNat_lt;have hz:(y.getD (i+j) 0).toNat<4294967296:=(y.getD (i+j) 0).toNat_lt
   obtain⟨a3,ag⟩:=hI.step (s:=c+(((Jj n).getD i 0).toNat*((Jj m).getD j 0).toNat+(y.getD (i+j) 0).toNat)) om om rfl;have a8:=Qpk hI.small hx hy hz;refine ρ ?_;generalize c+(((Jj n).getD i 0).toNat*((Jj m).getD j 0).toNat+(y.getD (i+j) 0).toNat)=s at *
   refine kv 7 (u:=.int .u64 (s:Int)) (congrArg (Value.int .u64) a8) ?_;refine kv 55 (u:=.int .u32 ((UInt32.ofNat s).toNat:Int)) (congrArg (Value.int .u32) ((congrArg IntKind.u32.wrap a8).trans (Zv s))) ?_;obtain⟨s1,s2,s3,s4,s5⟩:=Xp G (q:=i+j) om (.int .u32 ((UInt32.ofNat s).toNat:Int));refine ρ ?_;refine ix (i+j) a4 om ?_;refine sto (s1.trans (Qm (show i+j<y.length by omega))) s2 ?_;refine ρ ?_;refine Zk rfl rfl (by decide) rfl ?_;refine ρ ?_;refine Qn (j+1) (s / 4294967296) (y.set (i+j) (UInt32.ofNat s)) ?_ ⟨lj,(a1.trans Z).setCell s4 _,a3,?_⟩ om
   .rw[Jqv];exact sB
   rw[Xd,List.length_set,D,<-Yc];exact s3
  have ae:j=M:=by grind
  subst ae;clear h;have ac:MulI (Jj n) (Jj m) i (Jj m).length c y:=by rw[hM];exact hI
  have hl:=ac.last (show i<(Jj n).length by omega);have G:=U;rw[Xd,D]at G;obtain⟨s1,s2,s3,s4,s5⟩:=Xp G (q:=i+j) om (.int .u32 ((UInt32.ofNat c).toNat:Int));refine ρ ?_;refine ix (i+j) (Rd.own G) om ?_;rw[Zv];refine sto (s1.trans (Qm (show i+j<y.length by omega))) s2 ?_;refine ρ ?_;rw[hM]at hl;refine Ju (i+1) (y.set (i+j) (UInt32.ofNat c)) sO ⟨li,a1.setCell s4 _,hl,?_⟩ om;rw[Xd,List.length_set,D,<-Yc];exact s3
 have af:i=L:=by grind
 have D:y.length=L+M:=by rw[hI.len,hL,hM]
 have a2:=hI.val;rw[af,List.take_of_length_le om,Zs,Zs]at a2;have U:=a5;rw[Xd,D]at U;have hr:=Rd.own U;refine ρ ?_;rw[<-D]at hr ⊢;refine cl (Gx hr (Nat.le_refl _) om) ?_;rintro t w4 ⟨rfl,rfl⟩;have:=Kl hr om;rw[a2]at this ⊢;refine ρ ?_;exact Jq ⟨this,λad _ _ e=>hO ad (by injection e),a6⟩
open Go.RowKit Pl Go.Wk
variable {l os:List UInt32}{c d k n r x:Nat}{A:Option Addr}{w:World}
theorem Jgw(h0:n≠0)(h:n<4294967296): Jj n=[UInt32.ofNat n]:=by grind [Jxw,limbs_0]
theorem Jwz{cs:List Value}(hr:Rd w 1 A n cs)(h1:∀ u∈cs,u.oneCell'=true)(hb:n*4<=140737488355328):
  Ret Tryz.prog 149 [.slice A n c] w λv w'=>w'.ownsRow w.heap.size 63 1 v n cs/\Ext w w':=by
 refine Jz Tryz.func149 Tryz.ntmps149 rfl kr rfl ?_;refine ρ ?_;refine snil ?_;refine ρ ?_;refine ci (λh=>?_) (λh=>?_)
 .have J:A=none:=by simpa using h
  subst J;have hn:n=0:=by
   rcases Nat.eq_zero_or_pos n with h0|h0
   .exact h0
   obtain⟨Z,O,_⟩:=hr.isome h0 om;cases O
  subst hn;have D:cs=[]:=List.eq_nil_of_length_eq_zero (by rw[hr.len]);subst D;refine ρ ?_;exact Jq ⟨Xr _ _ _ _,Ext.refl w⟩
 refine ρ ?_;refine bsl Qvd ?_;intro w1 b i G B;refine ρ ?_;refine apo i EN (B.own (n:=0) G rfl (Nat.zero_le _)) (hr.ext i) h1 (by unfold maxLen;omega) om ?_;intro U w2 j y _ _;refine ρ ?_;rw[Nat.zero_add,List.nil_append]at j;exact Jq ⟨j,y⟩
theorem Jvq(h:k<l.length): val (l.drop k)=(l.getD k 0).toNat+4294967296*val (l.drop (k+1)):=by grind [List.drop_eq_getElem_cons,val,List.getD,List.getElem?_eq_getElem]
structure DivI(l:List UInt32)(d k r:Nat)(os:List UInt32): Prop where
 len:os.length=l.length
 lt:r<d
 old:∀ j,j<k->os.getD j 0=l.getD j 0
 val:val (l.drop k)=Pl.val (os.drop k)*d+r
theorem DivI.step{s:Nat}(h:DivI l d (k+1) r os)(hk:k<l.length)(hd:d<4294967296)(hs:s=r*4294967296+(l.getD k 0).toNat): DivI l d k (s % d) (os.set k (UInt32.ofNat (s / d)))/\s<18446744073709551616:=by
 obtain⟨Z,U,O,u⟩:=h;have D:(l.getD k 0).toNat<4294967296:=(l.getD k 0).toNat_lt;have i:s<4294967296*d:=by rw[hs];omega
 have G:s / d<4294967296:=Nat.div_lt_of_lt_mul (by grind);refine⟨⟨by grind,Nat.mod_lt _ om,λj J=>by grind,?_⟩,om⟩;rw[Jvq hk,Jvq (l:=os.set k (UInt32.ofNat (s / d))) (k:=k) (by grind),u];have B:(os.set k (UInt32.ofNat (s / d))).getD k 0=UInt32.ofNat (s / d):=by grind
 have y:(os.set k (UInt32.ofNat (s / d))).drop (k+1)=os.drop (k+1):=List.drop_set_of_lt om;rw[B,y,UInt32.toNat_ofNat',Nat.mod_eq_of_lt (show s / d<2^32 by omega)];grind [Nat.div_add_mod,Nat.mul_add,Nat.add_mul,Nat.mul_assoc,Nat.mul_comm]
theorem Jcg(hr:r<4294967296)(hx:x<4294967296): bits .or .u64 (IntKind.u64.wrap ((r:Int)*2^min (32:Int).toNat IntKind.u64.bits)) (IntKind.u64.wrap (x:Int))=((r*4294967296+x:Nat):Int):=by
 have u:(2:Int)^min (32:Int).toNat IntKind.u64.bits=4294967296:=by decide
 have j:IntKind.u64.wrap ((r:Int)*4294967296)=((r*4294967296:Nat):Int):=by rw[IntKind.wrap_u64];omega
 have i:IntKind.u64.wrap (x:Int)=(x:Int):=by rw[IntKind.wrap_u64];omega
 rw[u,j,i,u64_or_nat _ _ om om,nat_join 32 (r*4294967296) x (by simp) om]
theorem Qkd{L base:Nat}(hL:l.length=L)(hLm:L<=1100)(ho:w.ownsRow base 63 1 (.slice A L c) L (Nc l))(h0:0<d)(hd:d<4294967296):
  Ret Tryz.prog 74 [.slice A L c,.int .u32 (d:Int)] w λr w'=>r=.int .u32 ((val l % d:Nat):Int)/\(∃ os:List UInt32,os.length=L/\val os=val l / d/\w'.ownsRow base 63 1 (.slice A L c) L (Nc os))/\w.grownBy w' (Value.slice A L c).ownBlock:=by
 refine Jz Tryz.func74 Tryz.ntmps74 rfl kr rfl ?_;refine ρ ?_;refine Xf (fun (k r:Nat) (os:List UInt32)=>[(0,.slice A L c),(1,.int .u32 (d:Int)),(5,.int .u64 (r:Int)),(6,.int .i64 ((k:Int)-1))])
  (λk r os w1=>k<=L/\DivI l d k r os/\w1.ownsRow base 63 1 (.slice A L c) L (Nc os)/\w.grownBy w1 (Value.slice A L c).ownBlock) (λk _ _=>k) L 0 l sB
  ⟨Nat.le_refl _,⟨rfl,h0,λ_ _=>rfl,by grind [List.drop_of_length_le,val]⟩,ho,Xl (Ext.refl w) _⟩ ?_
 rintro k r os w1 ⟨hk,J,B,G⟩;have Z:os.length=L:=by rw[J.len,hL]
 refine ρ ?_;refine ci (λh=>?_) (λh=>?_)
 .obtain⟨k,rfl⟩:∃ j,k=j+1:=⟨k-1,by grind⟩;clear h;obtain⟨s,hs⟩:∃ s,s=r*4294967296+(l.getD k 0).toNat:=⟨_,rfl⟩;obtain⟨i,a2⟩:=J.step om hd hs;have hx:(l.getD k 0).toNat<4294967296:=(l.getD k 0).toNat_lt;have a3:=J.lt;have y:Rd w1 1 A L (Nc os):=Rd.own B;have D:=J.old k om;refine ρ ?_;refine Jzw rfl rfl (by decide) rfl ?_;refine ρ ?_;refine ix k y om ?_;refine ρ ?_;refine ld (y.cell (Qm (show k<os.length by omega))) ?_;rw[D];refine ρ ?_;have O:bits .or .u64 (IntKind.u64.wrap ((r:Int)*2^min (32:Int).toNat IntKind.u64.bits)) (IntKind.u64.wrap ((l.getD k 0).toNat:Int))=(s:Int):=by grind [Jcg]
  refine kv 5 (u:=.int .u64 (s:Int)) (congrArg (Value.int .u64) O) ?_;refine kv 24 (u:=.int .u64 (s:Int)) (congrArg (Value.int .u64) O) ?_;have ed:IntKind.u64.wrap (d:Int)=(d:Int):=by rw[IntKind.wrap_u64];omega
  refine kv 26 (u:=.int .u64 (d:Int)) (congrArg (Value.int .u64) ed) ?_;refine Ie rfl rfl om rfl ?_;have hq:s / d<=s:=Nat.div_le_self _ _;have e2:IntKind.u32.wrap (IntKind.u64.wrap ((s:Int).tdiv d))=((UInt32.ofNat (s / d)).toNat:Int):=by grind [Zt,Zv]
  obtain⟨s1,s2,s3,s4,s5⟩:=Xp B (q:=k) om (.int .u32 ((UInt32.ofNat (s / d)).toNat:Int));refine ρ ?_;refine ix k y om ?_;rw[e2];refine sto (s1.trans (Qm (show k<os.length by omega))) s2 ?_;refine ρ ?_;refine kv 32 (u:=.int .u64 (d:Int)) (congrArg (Value.int .u64) ed) ?_;refine wrem rfl rfl om rfl ?_;refine ρ ?_;refine Qn k (s % d) (os.set k (UInt32.ofNat (s / d))) ?_ ⟨om,i,?_,Xy G s5⟩ om
  .have e3:(s:Int).tmod d=((s % d:Nat):Int):=rfl;rw[e3];exact sO
  rw[<-Yc];exact s3
 have a1:k=0:=by have:=oF h;omega
 subst a1;obtain⟨i1,i2,_,U⟩:=J;rw[List.drop_zero,List.drop_zero]at U;have hm:r=val l % d:=by rw[U,Nat.add_comm,Nat.add_mul_mod_self_right,Nat.mod_eq_of_lt i2]
 have hv:val os=val l / d:=by
  rw[U,Nat.add_comm,Nat.add_mul_div_right _ _ h0,Nat.div_eq_of_lt i2,Nat.zero_add]
 refine ρ ?_;refine Jq ⟨?_,⟨os,Z,hv,B⟩,G⟩;rw[Zv,UInt32.toNat_ofNat',Nat.mod_eq_of_lt (show r<2^32 by omega),hm]
end Go.Proofs.YtebiphhfkdbpfaaGreatDoor
namespace Go.Wk
end Go.Wk
namespace Go.Proofs.YtebiphhfkdbpfaaGreatDoor
open Go.RowKit Pl Go.Wk
attribute [local irreducible] WC WL QX WD WDB WP WN WG
variable {c m n:Nat}{N N':Nat->Prop}{v:Value}{w w':World}
theorem Qqk(h:0<(Jj n).length): n≠0:=by grind [limbs_0]
def NatX(N:Nat->Prop)(w:World)(v:Value)(n:Nat): Prop:=NatV w v n/\(n≠0->∀ ad m c,v=.slice (some ad) m c->¬ N ad.block)
theorem NatX.ext{N:Nat->Prop}{w w':World}{v:Value}{n:Nat}(h:NatX N w v n)(hx:Ext w w'): NatX N w' v n:=⟨h.1.ext hx,h.2⟩
theorem NatX.gr(h:NatX N w v n)(hg:GrN N w w'): NatX N w' v n:=by
 obtain⟨⟨A,c,rfl,y,u,j⟩,i⟩:=h;exact⟨⟨A,c,rfl,y,u,Ud j hg (λh0 B e=>i (Qqk (by grind [Va])) B _ _ (by rw[e]))⟩,i⟩
theorem NatX.nil{N:Nat->Prop}(w:World): NatX N w (.slice none 0 0) 0:=⟨NatV.nil w,λ_ i m c e=>by cases e⟩
theorem limbs_pos'(h:n≠0): 0<(Jj n).length:=by rw[Jxw h];simp
theorem NatX.old(h:NatX N w v n)(hs:∀ k,N' k->N k∨w.heap.size<=k): NatX N' w v n:=⟨h.1,λh0 j m c e i=>by
 rcases hs _ i with h1|h1
 .exact h.2 h0 j m c e h1
 obtain⟨A,B,y,_,_,u⟩:=h.1;grind [Rd.isome,limbs_pos']⟩
theorem Fresh.x(h:Fresh w v)(hn:NatV w' v n)(hN:∀ k,N k->k<w.heap.size): NatX N w' v n :=
 ⟨hn,λ_ j m c e i=>by have:=h j m c e;have:=hN _ i;omega⟩
def TrV(N:Nat->Prop)(w:World): Tr->Value->Prop
 | .nil,u=>u=.pointer none
 | .node l v x r,u=>∃ b wt pl pr st,u=.pointer (some ⟨b,0,none⟩)/\(Blk w b 276 (v.cells++[wt,pl,pr,.int .i64 ((Tr.node l v x r).ht:Int),.int .i64 ((Tr.node l v x r).sz:Int),st])/\¬ N b)/\NatX N w wt x/\NatX N w st (Tr.node l v x r).sum/\TrV N w l pl/\TrV N w r pr
theorem TrV.gr{N:Nat->Prop}{w w':World}: ∀ {t:Tr} {u:Value},TrV N w t u->GrN N w w'->TrV N w' t u
 | .nil,u,h,_=>h
 | .node l v x r,u,h,hx=>by
  obtain⟨b,wt,pl,pr,st,h1,⟨h2,h2'⟩,h3,h4,h5,h6⟩:=h;exact⟨b,wt,pl,pr,st,h1,⟨Jr h2 hx h2',h2'⟩,h3.gr hx,h4.gr hx,h5.gr hx,h6.gr hx⟩
theorem TrV.ext{N:Nat->Prop}{w w':World}{t:Tr}{u:Value}(h:TrV N w t u)(hx:Ext w w'): TrV N w' t u:=h.gr (GrN.ext hx)
theorem TrV.old{N N':Nat->Prop}{w:World}(hs:∀ k,N' k->N k∨w.heap.size<=k): ∀ {t:Tr} {u:Value},TrV N w t u->TrV N' w t u
 | .nil,u,h=>h
 | .node l v x r,u,h=>by
  obtain⟨b,wt,pl,pr,st,h1,⟨h2,h2'⟩,h3,h4,h5,h6⟩:=h;exact⟨b,wt,pl,pr,st,h1,⟨h2,λhk=>(hs _ hk).elim h2' (λh=>by have:=h2.lt;omega)⟩,h3.old hs,h4.old hs,h5.old hs,h6.old hs⟩
theorem Qjk(hv:NatV w v n)(hs:(Jj n).length<=1000): Ret Tryz.prog 73 [v] w λr w'=>NatV w' r n/\Fresh w r/\Ext w w':=by
 refine Jz Tryz.func73 Tryz.ntmps73 rfl kr rfl ?_;refine ρ ?_;refine cl (Za hv) ?_;rintro j w' ⟨⟨A,rfl,D⟩,rfl⟩;refine ρ ?_;refine cl (Jwz D (Jzr _) om) ?_;rintro j w1 ⟨i,u⟩;obtain⟨O,G,rfl,B,y⟩:=Jv i;refine ρ ?_;refine Jq ⟨⟨O,G,rfl,B,om,Rd.own i⟩,λJ m c e=>?_,u⟩;injection e with e1 e2 e3
 subst e1;exact(y J.block rfl).1
theorem Qvp: ∃ k:Nat,k=900:=⟨_,rfl⟩
noncomputable def bK: Nat:=Classical.choose Qvp
theorem Jmh: bK=900:=Classical.choose_spec Qvp
def Nb(n:Nat): Prop:=n<4294967296^bK
theorem Nb.len(h:Nb n): (Jj n).length<=1000:=by
 rcases Nat.eq_zero_or_pos n with h0|h0
 .rw[h0,limbs_0];simp
 have i:=Jbk (n:=n) om;rcases Nat.lt_or_ge bK ((Jj n).length-1) with h2|h2
 .exact absurd (nM h (nL (Nat.pow_le_pow_right (by decide) (Nat.le_of_lt h2)) i)) (Nat.lt_irrefl _)
 rw[Jmh]at h2;omega
theorem Nb.le(h:Nb n)(hm:m<=n): Nb m:=Nat.lt_of_le_of_lt hm h
structure NatsV(w:World)(A:Option Addr)(us:List Value)(ns:List Nat): Prop where
 rd:Rd w 1 A us.length us
 len:us.length=ns.length
 nat:∀ i,i<ns.length->NatV w (us.getD i (.int .i64 0)) (ns.getD i 0)
theorem Qpd{A:Option Addr}{us:List Value}{ns:List Nat}(h:NatsV w A us ns)(hN:Nb (ns.foldl (· + ·) 0))(hl:ns.length<=1000)(hsub:∀ i,i<=ns.length->Nb ((ns.take i).foldl (· + ·) 0))(hone:∀ x∈ns,Nb x):
  Ret Tryz.prog 44 [.slice A us.length c] w λr w'=>NatV w' r (ns.foldl (· + ·) 0)/\Fresh w r/\Ext w w':=by
 have Z:=h.len;refine Jz Tryz.func44 Tryz.ntmps44 rfl kr rfl ?_;refine ρ ?_;refine Qq (fun (i:Nat) (vs:Value)=>[(0,.slice A us.length c),(3,vs),(6,.int .i64 (us.length:Int)),(7,.int .i64 (i:Int))])
  (λi vs w'=>i<=ns.length/\Ext w w'/\NatV w' vs ((ns.take i).foldl (· + ·) 0)/\Fresh w vs) (λi _=>ns.length-i) 0 (.slice none 0 0) sB
  ⟨Nat.zero_le _,Ext.refl _,NatV.nil _,λad m c e=>by cases e⟩ ?_
 rintro i vs w1 ⟨hi,j,B,G⟩;refine ρ ?_;refine ci (λO=>?_) (λO=>?_)
 .have U:i<ns.length:=by have:=oT O;omega
  clear O;refine ρ ?_;refine ix i (h.rd.ext j) om ?_;have u:us[i]?=some (us.getD i (.int .i64 0)):=by grind
  refine ρ ?_;refine ld ((h.rd.ext j).cell u) ?_;refine ρ ?_;refine cl (Jgk B ((h.nat i U).ext j) (hsub i hi).len (hone _ (by grind)).len) ?_;rintro r w2 ⟨hr,J,y⟩;refine ρ ?_;refine Ju (i+1) r sO ⟨U,j.trans y,?_,λad m c e=>nL j.size (J ad m c e)⟩ om;grind [Qr]
 have D:i=ns.length:=by grind
 rw[D,List.take_length]at B;refine ρ ?_;exact Jq ⟨B,G,j⟩
end Go.Proofs.YtebiphhfkdbpfaaGreatDoor
namespace Go.Wk
open Go.RowKit
variable {cs xs:List Value}{b base c d dT e j m n sT sc t ty:Nat}{N N':Nat->Prop}{x y:Operand}{A B:Option Addr}{k:TK}{α:Type}{E:TypeId}{u v v' z:Value}{w w':World}
section
variable {α:Type} {E:TypeId} {sz:Nat} {Φ:(Nat->Prop)->World->List Value->α->Prop} {N N' M:Nat->Prop} {w w':World} {base:Nat} {v:Value} {ls:List α}
structure Sta(Φ:(Nat->Prop)->World->List Value->α->Prop): Prop where
 gr:∀ {N w w' cs a},Φ N w cs a->GrN N w w'->Φ N w' cs a
 old:∀ {N N':Nat->Prop} {w cs a},Φ N w cs a->(∀ k,N' k->N k∨w.heap.size<=k)->Φ N' w cs a
def GX(sz:Nat)(Φ:(Nat->Prop)->World->List Value->α->Prop)(N:Nat->Prop)(w:World)(v:Value)(ls:List α): Prop :=
 GV sz (Φ N) w v ls/\(ls≠[]->∀ ad m c,v=.slice (some ad) m c->¬ N ad.block)
def OX(E:TypeId)(sz:Nat)(Φ:(Nat->Prop)->World->List Value->α->Prop)(N:Nat->Prop)(w:World)(base:Nat)(v:Value)(ls:List α): Prop :=
 ∃ ps:List (List Value×α),ls=ps.map (·.2)/\w.ownsRow base E sz v ps.length (Jm ps)/\∀ p∈ps,p.1.length=sz/\Φ N w p.1 p.2
theorem GX.gr(h:GX sz Φ N w v ls)(hΦ:Sta Φ)(hs:0<sz)(hg:GrN N w w'): GX sz Φ N w' v ls:=by
 obtain⟨⟨ps,A,c,e,y,J,G,i,j⟩,hn⟩:=h;refine⟨⟨ps,A,c,e,y,J,G,Ud i hg λh0 O D=>hn ?_ O ps.length c (by rw[y,D]),λp u=>⟨(j p u).1,hΦ.gr (j p u).2 hg⟩⟩,hn⟩;intro B;rw[i.len]at h0;have:ps.length=0:=by
  have:=congrArg List.length e;rw[B,List.length_map]at this;exact this.symm
 rw[this]at h0;omega
theorem GX.ext(h:GX sz Φ N w v ls)(hΦ:Sta Φ)(hs:0<sz)(hx:Ext w w'): GX sz Φ N w' v ls:=h.gr hΦ hs (GrN.ext hx)
theorem GX.old(h:GX sz Φ N w v ls)(hΦ:Sta Φ)(hs:0<sz)(hN:∀ k,N' k->N k∨w.heap.size<=k): GX sz Φ N' w v ls:=by
 obtain⟨⟨ps,A,c,e,y,O,J,i,j⟩,hn⟩:=h;refine⟨⟨ps,A,c,e,y,O,J,i,λp u=>⟨(j p u).1,hΦ.old (j p u).2 hN⟩⟩,λh0 ad m U ev D=>?_⟩;rcases hN _ D with h1|h1
 .exact hn h0 ad m U ev h1
 have B:0<ps.length:=by
  rcases Nat.eq_zero_or_pos ps.length with h2|h2
  .exact absurd (by rw[e,List.eq_nil_of_length_eq_zero h2];rfl) h0
  exact h2
 obtain⟨Z,G,hb⟩:=i.isome B hs;rw[y,G]at ev;injection ev with ev _ _
 injection ev with ev
 subst ev;omega
theorem GX.gv(h:GX sz Φ N w v ls): GV sz (Φ N) w v ls:=h.1
theorem OX.nil(w:World)(base:Nat): OX E sz Φ N w base (.slice none 0 0) []:=⟨[],rfl,Xr _ _ _ _,λp i=>by cases i⟩
theorem OX.form(h:OX E sz Φ N w base v ls): ∃ A c,v=.slice A ls.length c/\ls.length<=c/\∀ g,v.ownBlock=some g->base<=g/\g<w.heap.size:=by
 obtain⟨ps,e,i,y⟩:=h;obtain⟨A,c,u,B,j⟩:=Jv i;have:ls.length=ps.length:=by rw[e,List.length_map]
 exact⟨A,c,by rw[this];exact u,om,j⟩
theorem OX.gr(h:OX E sz Φ N w base v ls)(hΦ:Sta Φ)(hg:GrN M w w')(hM:∀ k,M k->N k/\v.ownBlock≠some k): OX E sz Φ N w' base v ls:=by
 obtain⟨ps,e,u,i⟩:=h;exact⟨ps,e,Qj u hg λg B hn=>(hM g hn).2 B,λp j=>⟨(i p j).1,hΦ.gr (i p j).2 (hg.mono λk _ y=>(hM k y).1)⟩⟩
theorem OX.ext(h:OX E sz Φ N w base v ls)(hΦ:Sta Φ)(hx:Ext w w'): OX E sz Φ N w' base v ls:=h.gr (M:=λ_=>False) hΦ (GrN.ext hx) λk e=>e.elim
theorem OX.old(h:OX E sz Φ N w base v ls)(hΦ:Sta Φ)(hN:∀ k,N' k->N k∨w.heap.size<=k): OX E sz Φ N' w base v ls:=by
 obtain⟨ps,e,u,i⟩:=h;exact⟨ps,e,u,λp j=>⟨(i p j).1,hΦ.old (i p j).2 hN⟩⟩
theorem OX.gx(h:OX E sz Φ N w base v ls)(hΦ:Sta Φ)(hm:ls.length<=1100000)(hN:∀ k,N' k->N k/\v.ownBlock≠some k): GX sz Φ N' w v ls:=by
 obtain⟨ps,e,y,u⟩:=h;have G:ls.length=ps.length:=by rw[e,List.length_map]
 obtain⟨A,c,D,B,J⟩:=Jv y;subst D;exact⟨⟨ps,A,c,e,rfl,B,om,Rd.own y,λp i=>⟨(u p i).1,hΦ.old (u p i).2 λk j=>.inl (hN k j).1⟩⟩,λ_ U m O ev j=>(hN _ j).2 (by rw[ev];rfl)⟩
theorem OX.after{ps:List (List Value×α)}(hΦ:Sta Φ)(e:ls=ps.map (·.2))(hp:∀ p∈ps,p.1.length=sz/\Φ N w p.1 p.2){w':World}{x:α}(hl:cs.length=sz)(hx:Φ N w cs x)(ho:w'.ownsRow base E sz v' (ps.length+1) (Jm ps++cs))(hg:w.grownBy w' v.ownBlock)(hv:∀ g,v.ownBlock=some g->N g): OX E sz Φ N w' base v' (ls++[x]):=by
 have i:GrN N w w':=GrN.by hg hv
 refine⟨ps++[(cs,x)],by rw[e];simp,?_,λp j=>?_⟩
 .have u:Jm (ps++[(cs,x)])=Jm ps++cs:=by simp[Jm]
  rw[List.length_append,u];exact ho
 rcases List.mem_append.1 j with h'|h'
 .exact⟨(hp p h').1,hΦ.gr (hp p h').2 i⟩
 rw[List.mem_singleton.1 h'];exact⟨hl,hΦ.gr hx i⟩
end
theorem apX{P:Program}{al:AL}{Q:Exit->Act->World->Prop}{ops:Array Oper}{rest:List Oper}{pos:String}{aft:Array Edge}{E sz bytes:Nat}(hE:ElT P t E sz bytes z){Φ:(Nat->Prop)->World->List Value->α->Prop}(hΦ:Sta Φ){ls:List α}{a:α}(ho:OX E sz Φ N w base v ls)(hb:Blk w b E cs)(hl:cs.length=sz)(h1:∀ u∈cs,u.oneCell'=true)(hx':Φ N w cs a)(hv:∀ g,v.ownBlock=some g->N g)(hm:ls.length<=1100000)(hby:bytes<=64)(hbase:base<=w.heap.size)(kk:∀ v' w',OX E sz Φ N w' base v' (ls++[a])->w.grownBy w' v.ownBlock->(∀ g,v'.ownBlock=some g->v.ownBlock=some g∨w.heap.size<=g)->WL P n ops Q rest ((d,v')::al) w')(hx:ev al x=some v:=by rfl)(hy:ev al y=some (.slice (some ⟨b,0,none⟩) 1 1):=by rfl)(hd:Nat.blt d n=true:=by rfl):
  WL P n ops Q (⟨some d,.call { callee:=.builtin .append,args:=#[x,y],argTypes:=#[t,t] },ty,pos,aft,none⟩::rest) al w:=by
 obtain⟨ps,e,D,G⟩:=ho;have j:ps.length<=1100000:=by
  have:=congrArg List.length e;rw[List.length_map]at this;omega
 have J:(ps.length+1)*bytes<=1100001*64:=Nat.mul_le_mul om hby;refine apb hE D (hb.rd (n:=1) om) h1 (by unfold maxLen;omega) om hbase ?_ hx hy hd;intro v' w' i B hn;exact kk v' w' (OX.after hΦ e G hl hx' i B hv) B hn
theorem Qzc{α:Type}{sz:Nat}{q:List Value×α}: ∀ {ps:List (List Value×α)} {j:Nat},(∀ p∈ps,p.1.length=sz)->j<ps.length->(Jm ps).take (j*sz)++q.1++(Jm ps).drop (j*sz+sz)=Jm (ps.set j q)
 | [],_,_,h=>by simp at h
 | p::ps,0,h,_=>by
  have hp:=h p (by simp);have e:Jm (p::ps)=p.1++Jm ps:=rfl;have e2:Jm ((p::ps).set 0 q)=q.1++Jm ps:=rfl;rw[e,e2,Nat.zero_mul,Nat.zero_add,List.take_zero,List.nil_append,List.drop_append,List.drop_of_length_le om,List.nil_append,hp,Nat.sub_self,List.drop_zero]
 | p::ps,j+1,h,hj=>by
  have hp:=h p (by simp);have ih:=Qzc (q:=q) (ps:=ps) (j:=j) (λx hx=>h x (by simp[hx])) (by simpa using hj);have e:Jm (p::ps)=p.1++Jm ps:=rfl;have e2:Jm ((p::ps).set (j+1) q)=p.1++Jm (ps.set j q):=rfl;rw[e,e2,<-ih,Nat.succ_mul,List.take_append,List.take_of_length_le om,List.drop_append,List.drop_of_length_le om,List.nil_append,hp,show j*sz+sz-sz=j*sz by omega,show j*sz+sz+sz-sz=j*sz+sz by omega];simp
theorem OX.put{sz:Nat}{Φ:(Nat->Prop)->World->List Value->α->Prop}{ps:List (List Value×α)}{a:α}(hΦ:Sta Φ)(hp:∀ p∈ps,p.1.length=sz/\Φ N w p.1 p.2)(hj:j<ps.length)(hl:cs.length=sz)(hx:Φ N w cs a)(ho:w'.ownsRow base E sz v ps.length ((Jm ps).take (j*sz)++cs++(Jm ps).drop (j*sz+sz)))(hg:w.grownBy w' v.ownBlock)(hv:∀ g,v.ownBlock=some g->N g): OX E sz Φ N w' base v ((ps.map (·.2)).set j a):=by
 have i:GrN N w w':=GrN.by hg hv
 rw[Qzc (q:=(cs,a)) (λp u=>(hp p u).1) hj]at ho;refine⟨ps.set j (cs,a),by simp[List.map_set],by rw[List.length_set];exact ho,λp u=>?_⟩;rcases List.mem_or_eq_of_mem_set u with h'|h'
 .exact⟨(hp p h').1,hΦ.gr (hp p h').2 i⟩
 rw[h'];exact⟨hl,hΦ.gr hx i⟩
section
variable {P:Program} {n:Nat} {al:AL} {w:World} {Q:Exit->Act->World->Prop} {ops:Array Oper} {rest:List Oper}
variable {d ty:Nat} {op:Op} {pos:String} {aft:Array Edge} {tt:TT}
theorem stX[h:Tab P tt]{sz:Nat}{Φ:(Nat->Prop)->World->List Value->α->Prop}(hΦ:Sta Φ){ls:List α}{a:α}(ho:OX e sz Φ N w base (.slice A m c) ls)(hm:m=ls.length)(hj:j<ls.length)(hx':Φ N w cs a)(hv:∀ g,(Value.slice A m c).ownBlock=some g->N g)(h1:∀ u∈cs,u.oneCell'=true)(kk:∀ w1,OX e sz Φ N w1 base (.slice A m c) (ls.set j a)->w.grownBy w1 (Value.slice A m c).ownBlock->WL P n ops Q rest al w1)(ht:tk tt t=some k:=by rfl)(hk:k.desc=.invalid:=by rfl)(hs:k.size=sz:=by rfl)(hl:cs.length=sz:=by rfl)(hx:ev al x=some (.pointer (some (adr A (j*sz)))):=by rfl)(hy:ev al y=some (.agg cs.toArray):=by rfl):
  WL P n ops Q (⟨none,.store t x y,ty,pos,aft,none⟩::rest) al w:=by
 obtain⟨ps,O,G,U⟩:=ho;have J:ls.length=ps.length:=by rw[O,List.length_map]
 have D:m=ps.length:=om
 rw[<-D]at G;refine stoE G om (λw1 B i=>kk w1 ?_ i) h1 ht hk hs hl hx hy;rw[O];rw[D]at B i hv ⊢;exact OX.put hΦ U om hl hx' B i hv
theorem stX1[h:Tab P tt]{Φ:(Nat->Prop)->World->List Value->α->Prop}(hΦ:Sta Φ){ls:List α}{a:α}(ho:OX e 1 Φ N w base (.slice A m c) ls)(hm:m=ls.length)(hj:j<ls.length)(hx':Φ N w [u] a)(hv:∀ g,(Value.slice A m c).ownBlock=some g->N g)(h1:u.oneCell'=true)(kk:∀ w1,OX e 1 Φ N w1 base (.slice A m c) (ls.set j a)->w.grownBy w1 (Value.slice A m c).ownBlock->WL P n ops Q rest al w1)(ht:tk tt t=some k:=by rfl)(hk:k.size=1:=by rfl)(hp':Vj k.desc=true:=by rfl)(hx:ev al x=some (.pointer (some (adr A j))):=by rfl)(hy:ev al y=some u:=by rfl):
  WL P n ops Q (⟨none,.store t x y,ty,pos,aft,none⟩::rest) al w:=by
 obtain⟨ps,e1,U,Z⟩:=ho;have a1:ls.length=ps.length:=by rw[e1,List.length_map]
 have B:m=ps.length:=om
 rw[<-B]at U;obtain⟨s1,s2,G,s4,D⟩:=Xp U (q:=j) om u;have a2:(Jm ps).length=ps.length*1:=Qzd λp hm=>(Z p hm).1;obtain⟨O,J⟩:∃ O,(Jm ps)[j]?=some O:=⟨_,List.getElem?_eq_getElem om⟩;refine sto (s1.trans J) s2 (kk _ ?_ D) ht hk hp' hx hy h1;have i:(Jm ps).set j u=(Jm ps).take (j*1)++[u]++(Jm ps).drop (j*1+1):=by
  rw[Nat.mul_one,List.set_eq_take_append_cons_drop,if_pos om];simp
 rw[i]at G;rw[e1];rw[B]at G D hv ⊢;exact OX.put hΦ Z om rfl hx' G D hv
theorem Qfs(w:World)(dT sT ty elem:TypeId)(g dLen dCap:Nat)(a:Addr)(sCap sz:Nat)(cur:Array Value)(t:TypeId)(cs:List Value)(hu:P.underlying dT=some (.slice elem))(hs:(P.info? elem).map (·.size)=some sz)(hg:w.heap[g]?=some (.cells cur t (0,0)))(hn:cs.length=dLen*sz)(hsrc:∀ j v,cs[j]?=some v->w.cell? (a.add j)=some v)(hfit:cs.length<=cur.size)(h1:∀ v∈cs,v.oneCell'=true):
  (Builtin.copy_ #[dT,sT] ty #[.slice (some ⟨g,0,none⟩) dLen dCap,.slice (some a) dLen sCap]).run P w =
   .ok (goInt dLen) (w.setRow g (cs++cur.toList.drop cs.length).toArray):=by
 have y:=run_loadCells_list (P:=P) w a cs hsrc;have u:=run_storeCells_at (P:=P) g 0 t cs 0 cur w hg (by simpa using hfit) h1;simp only[Nat.add_zero,Nat.zero_add,List.take_zero,List.nil_append]at u;cases hq:P.info? elem with
 | none=>simp[hq]at hs
 | some i=>
  have hi:i.size=sz:=by simpa [hq] using hs
  simp[Builtin.copy_,run_underlying hu,Builtin.lenOf,Builtin.firstCells,sizeOf,typeInfo,hq,hi,<-hn,y,u]
theorem cpO[h:Tab P tt]{sz:Nat}(ho:w.ownsRow base e sz (.slice A m c) m cs)(hr:Rd w sz B m xs)(h0:0<m)(hsz:0<sz)(h1:∀ u∈xs,u.oneCell'=true)(kk:∀ w1,w1.ownsRow base e sz (.slice A m c) m xs->w.grownBy w1 (Value.slice A m c).ownBlock->WL P n ops Q rest ((d,.int .i64 (m:Int))::al) w1)(ht:tk tt dT=some k:=by rfl)(hk:k.desc=.slice e:=by rfl)(hz:k.esz=sz:=by rfl)(hx:ev al x=some (.slice A m c):=by rfl)(hy:ev al y=some (.slice B m sc):=by rfl)(hd:Nat.blt d n=true:=by rfl):
  WL P n ops Q (⟨some d,.call { callee:=.builtin .copy,args:=#[x,y],argTypes:=#[dT,sT] },ty,pos,aft,none⟩::rest) al w:=by
 have J:=Gp h.ok ht hk hz;rcases ho.2 with⟨_,h2⟩|⟨g,cap,cur,hv,hb,hg,hc,hcm,hcs,hcur⟩
 .omega
 injection hv with e1 _ e3
 subst e1;subst e3;have i:=hr.len;obtain⟨ad,e2,Z,j⟩:=hr.2 (by rw[i];exact Nat.mul_pos h0 hsz);subst e2;have U:m*sz<=c*sz:=nO _ hc;have G:(P.info? e).map (·.size)=some sz:=J.2
 have D:=λty=>Qfs (P:=P) w dT sT ty e g m c ad sc sz cur e xs J.1 G hg i j om h1;refine wop (w':=w.setRow g (xs++cur.toList.drop xs.length).toArray) hd (λa O=>?_) (kk _ ⟨i,.inr ⟨g,c,_,rfl,hb,setRow_heap w g cur _ e (0,0) hg,hc,hcm,?_,?_⟩⟩ (Jjz w g _))
 .simp[execOp,resolve,invoke,builtin,O.ev hx,O.ev hy,D,goInt]
 .simp;omega
 rw[List.take_append,List.take_of_length_le om];simp[i]
theorem cpX[h:Tab P tt]{sz:Nat}{Φ:(Nat->Prop)->World->List Value->α->Prop}(hΦ:Sta Φ){l0 ls:List α}(ho:OX e sz Φ N' w base (.slice A m c) l0)(hl0:l0.length=m)(hs:GX sz Φ N w (.slice B m sc) ls)(h0:0<m)(hsz:0<sz)(hN:∀ cs a,Φ N w cs a->Φ N' w cs a)(h1:∀ cs a,Φ N w cs a->∀ u∈cs,u.oneCell'=true)(hv:∀ g,(Value.slice A m c).ownBlock=some g->N' g)(kk:∀ w1,OX e sz Φ N' w1 base (.slice A m c) ls->w.grownBy w1 (Value.slice A m c).ownBlock->WL P n ops Q rest ((d,.int .i64 (m:Int))::al) w1)(ht:tk tt dT=some k:=by rfl)(hk:k.desc=.slice e:=by rfl)(hz:k.esz=sz:=by rfl)(hx:ev al x=some (.slice A m c):=by rfl)(hy:ev al y=some (.slice B m sc):=by rfl)(hd:Nat.blt d n=true:=by rfl):
  WL P n ops Q (⟨some d,.call { callee:=.builtin .copy,args:=#[x,y],argTypes:=#[dT,sT] },ty,pos,aft,none⟩::rest) al w:=by
 obtain⟨G,e0,i,a1⟩:=ho;obtain⟨⟨ps,A',c',e1,e2,e3,e4,hr,O⟩,_⟩:=hs;have Z:G.length=m:=by rw[<-hl0,e0,List.length_map]
 injection e2 with e5 e6 e7
 subst e5;rw[Z]at i;rw[<-e6]at hr;refine cpO i hr h0 hsz (λu hu=>?_) (λw1 U j=>kk w1 ⟨ps,e1,by rw[<-e6];exact U,λp D=>⟨(O p D).1,hΦ.gr (hN _ _ (O p D).2) (GrN.by j hv)⟩⟩ j) ht hk hz hx hy hd;obtain⟨p,D,J⟩:=List.mem_flatMap.1 hu;exact h1 _ _ (O p D).2 u J
theorem GX.el{sz:Nat}{Φ:(Nat->Prop)->World->List Value->α->Prop}{w:World}{ls:List α}(h:GX sz Φ N w v ls): ∃ A c cs,v=.slice A ls.length c/\ls.length<=c/\ls.length<=1100000/\Rd w sz A ls.length cs/\(0<ls.length->0<sz->∃ ad,A=some ad/\¬ N ad.block)/\∀ i (hi:i<ls.length),∃ ce,ce.length=sz/\Φ N w ce ls[i]/\∀ j u,ce[j]?=some u->w.cell? ((adr A (i*sz)).add j)=some u:=by
 obtain⟨A,c,cs,D,U,O,y,J⟩:=h.1.parts;refine⟨A,c,cs,D,U,O,y,λh0 G=>?_,J⟩;obtain⟨ad,B,_⟩:=y.isome h0 G;exact⟨ad,B,h.2 (λe=>by rw[e]at h0;simp at h0) ad ls.length c (by rw[D,B])⟩
theorem OX.el{sz:Nat}{Φ:(Nat->Prop)->World->List Value->α->Prop}{w:World}{ls:List α}(h:OX E sz Φ N w base v ls): ∃ A c cs,v=.slice A ls.length c/\ls.length<=c/\Rd w sz A ls.length cs/\∀ i (hi:i<ls.length),∃ ce,ce.length=sz/\Φ N w ce ls[i]/\∀ j u,ce[j]?=some u->w.cell? ((adr A (i*sz)).add j)=some u:=by
 obtain⟨ps,e,G,O⟩:=h;subst e;obtain⟨A,c,e1,Z,e3⟩:=Jv G;subst e1;have y:(ps.map λx=>x.2).length=ps.length:=List.length_map ..;refine⟨A,c,Jm ps,by rw[y],by rw[y];exact Z,by rw[y];exact Rd.own G,λi hi=>?_⟩;have hi:i<ps.length:=by rw[<-y];exact hi
 have J:=O ps[i] (List.getElem_mem hi);refine⟨ps[i].1,J.1,by simpa using J.2,λj u B=>?_⟩;have U:j<sz:=by
  rw[<-J.1];rcases Nat.lt_or_ge j ps[i].1.length with h|h
  .exact h
  rw[List.getElem?_eq_none h]at B;cases B
 rw[Gh];exact(Rd.own G).cell ((Jhq (λp D=>(O p D).1) (gE hi) U).trans B)
end
end Go.Wk
namespace Go.Wk
open Go.RowKit
theorem Off.old'{N N':Nat->Prop}{w:World}{Φ:World->Prop}(h:Off N w Φ)(hN:∀ k,N' k->N k∨w.heap.size<=k): Off N' w Φ:=λw2 hg2=>h w2 (hg2.mono λk i hn=>(hN k hn).elim id λh=>om)
end Go.Wk
namespace Go.Proofs.YtebiphhfkdbpfaaGreatDoor
open Go.RowKit Pl Go.Wk
attribute [local irreducible] WC WL QX WD WDB WP WN WG WH
variable {l:List Nat}{n:Nat}{u v:Value}{w w':World}
def Ur(e:Nat)(l:List Nat): Nat:=l.foldl (λe v=>e ||| 2^v) e
def Xt(l:List Nat): Nat:=Ur 0 l
theorem Qzz: ∀(l:List Nat) (e u:Nat),(Ur e l).testBit u=true↔e.testBit u=true∨u∈l
 | [],e,u=>by simp[Ur]
 | v::l,e,u=>by
  show(Ur (e ||| 2^v) l).testBit u=true↔_;rw[Qzz l,Nat.testBit_or,Nat.testBit_two_pow];simp only[Bool.or_eq_true,decide_eq_true_eq,List.mem_cons];grind
theorem edgeOf_bit{u:Nat}: (Xt l).testBit u=true↔u∈l:=by
 unfold Xt;rw[Qzz];simp
theorem Jcd(h:∀ v∈l,v<n): Xt l<2^n:=Nat.lt_pow_two_of_testBit _ λi hi=>by
 refine Bool.eq_false_iff.2 λe=>?_;have:=h i (edgeOf_bit.1 e);omega
theorem Xjq(e:Nat)(l:List Nat)(v:Nat): Ur e (l++[v])=Ur e l ||| 2^v:=by simp[Ur]
theorem EU32s: ElT Tryz.prog 39 63 1 4 (.int .u32 0):=⟨Tryz.underlying39,info_parts kr,rfl,by decide⟩
theorem Xkb(z:Int)(w:World): (Instr.buildSlice 39 1 #[(0,.int .u32 z)]).run Tryz.prog w=.ok (.slice (some ⟨w.heap.size,0,none⟩) 1 1) (w.alloc (.cells [.int .u32 z].toArray 63)):=kr
theorem Jql: Qe Tryz.prog 48=some (.agg #[.int .i64 0,.slice none 0 0]):=kr
theorem Xkv(z:Int)(w:World): (Instr.build 48 #[(0,.int .i64 z)]).run Tryz.prog w=.ok (.agg #[.int .i64 z,.slice none 0 0]) w:=kr
theorem Xvn(a b:List Nat): Uc (a++b)=Uc a++Uc b:=by simp[Uc]
theorem nzl(vs:List Nat): (nz vs).length=vs.length:=by simp[nz]
theorem Xzv(hx:Ext w w'){p:Addr}(h:w.cell? p=some u): w'.cell? p=some u:=by
 have i:p.block<w.heap.size:=by
  rcases Nat.lt_or_ge p.block w.heap.size with h1|h1
  .exact h1
  unfold World.cell? at h;rw[Array.getElem?_eq_none h1]at h;simp at h
 rw[hx.cell i];exact h
def NtC(N:Nat->Prop)(w:World)(cs:List Value)(l:List Nat): Prop:=∃ v,cs=[v]/\Off N w λx=>IntsV x v (nz l)
theorem NtC.sta: Sta NtC:=⟨λ⟨v,e,h⟩ i=>⟨v,e,h.gr i⟩,λ⟨v,e,h⟩ j=>⟨v,e,h.old' j⟩⟩
theorem Qxl{N:Nat->Prop}{vss:List (List Nat)}(h:GX 1 NtC N w v vss)(hn:n<=32)(hm:vss.length<=64)(hlt:∀ vs∈vss,∀ x∈vs,x<n):
  Ret Tryz.prog 41 [.int .i64 (n:Int),v] w λu w'=>∃ A c,u=.tuple #[.agg (grC A c n (vss.map Xt)).toArray,.int .i64 0]/\GrV w' A c n (vss.map Xt)/\Ext w w':=by
 obtain⟨SA,sc,bg,rfl,bh,_,b7,_,b5⟩:=id h.el;refine Jz Tryz.func41 Tryz.ntmps41 rfl kr rfl ?_;refine ρ ?_;refine alc Jql ?_;intro w1 b4 ar b3 an;refine ρ ?_;refine cf ?_ ?_
 .simp;omega
 refine ρ ?_;refine cf ?_ ?_
 .exact dF om
 refine ρ ?_;refine bld (Xkv _ _) ?_;refine ρ ?_;refine alc Jql ?_;intro w2 b6 aq aj ba;refine ρ ?_;refine stW ba ?_;intro w3 ak bi ap;have a8:Ext w1 w3:=ap w1 aq aj;have be:=an.ext a8;have a3:(vss.map Xt).length=vss.length:=List.length_map ..;refine ρ ?_;refine Qq (fun (i:Nat) (vl:Value)=>[(0,.int .i64 (n:Int)),(4,.pointer (some ⟨b4,0,none⟩)),(5,.int .i64 0),(6,.pointer (some ⟨b6,0,none⟩)),(25,.slice SA vss.length sc),(26,.int .i64 (vss.length:Int)),(27,.int .i64 (i:Int))])
  (λi vl w'=>i<=vss.length/\Ext w1 w'/\Blk w' b6 48 [.int .i64 (n:Int),vl]/\w'.ownsRow w1.heap.size 63 1 vl i (Uc ((vss.map Xt).take i))) (λi _=>vss.length-i) 0 (.slice none 0 0) sB
  ⟨Nat.zero_le _,a8,ak,by rw[List.take_zero];exact Xr _ _ _ _⟩ ?_
 rintro i vl w6 ⟨hi,a1,J,B⟩;obtain⟨EA,ec,rfl,b2,b1⟩:=Jv B;have D:=ar.trans a1;refine ρ ?_;refine ci (λh=>?_) (λh=>?_)
 .have li:i<vss.length:=by have:=oT h;omega
  clear h;obtain⟨ce,_,⟨vv,rfl,ai⟩,ae⟩:=b5 i li;have ad:=hlt _ (List.getElem_mem li);have hI:=ai.here;generalize hq:vss[i]=vs at hI ad
  obtain⟨QA,qc,rfl,ax,aw,ag⟩:=id hI;rw[nzl]at ag ax aw;have ah:=ag.ext D;refine ρ ?_;refine ix i (b7.ext D) li ?_;refine ρ ?_;refine ld (show w6.cell? (adr SA i)=some (.slice QA (nz vs).length qc) by have:=Xzv D (ae 0 _ rfl);rwa [Gh,Nat.mul_one,Nat.add_zero]at this) ?_;rw[nzl];refine ρ ?_;refine Js (fun (j:Nat)=>[(0,.int .i64 (n:Int)),(4,.pointer (some ⟨b4,0,none⟩)),(5,.int .i64 0),(6,.pointer (some ⟨b6,0,none⟩)),(25,.slice SA vss.length sc),(26,.int .i64 (vss.length:Int)),(27,.int .i64 (i:Int)),(9,.int .u32 (Ur 0 (vs.take j):Int)),(31,.slice QA vs.length qc),(32,.int .i64 (vs.length:Int)),(33,.int .i64 (j:Int))])
   (λj w'=>j<=vs.length/\w'=w6) (λj=>vs.length-j) 0 sB ⟨Nat.zero_le _,rfl⟩ ?_
  rintro j _ ⟨hj,rfl⟩;refine ρ ?_;refine ci (λh=>?_) (λh=>?_)
  .have lj:j<vs.length:=by have:=oT h;omega
   clear h;have av:=ad _ (getD_mem' 0 vs lj);refine ρ ?_;refine ix j ah lj ?_;refine ρ ?_;refine ld (ah.cell (Qs lj)) ?_;refine ρ ?_;refine cf ?_ ?_
   .generalize vs.getD j 0=q at av ⊢
    simp;omega
   refine ρ ?_;refine sl32 (v:=vs.getD j 0) om ?_;refine ρ ?_;have bb:Ur 0 (vs.take j)<4294967296:=nM (Jcd (l:=vs.take j) λv hv=>ad v (List.mem_of_mem_take hv)) (Ku hn);rw[Jqf bb (Jjm om),<-Xjq,<-Qr 0 lj];refine ρ ?_;exact Jp (j+1) sO ⟨lj,rfl⟩ om
  have ay:j=vs.length:=by have:=oF h;omega
  clear h;rw[ay,List.take_length];refine ρ ?_;refine ld (J.at (i:=1) rfl) ?_;refine ρ ?_;refine bsl (Xkb _) ?_;intro w9 b9 Z bj b8;have a7:=a1.trans Z;refine ρ ?_;refine apb (m':=1) (news:=[.int .u32 (Ur 0 vs:Int)]) EU32s (Jh B Z) (b8.rd (n:=1) rfl) (by simp[Value.oneCell']) (by unfold maxLen;omega) om a7.size ?_;intro bf U a2 aa bc;have y:Blk U b6 48 [.int .i64 (n:Int),.slice EA i ec]:=(J.ext Z).grown aa ((J.ext Z).ne_own (Jh B Z) rfl);obtain⟨a6,a5,rfl,_,bd⟩:=Jv a2;refine ρ ?_;refine sto (y.at (i:=1) rfl) (y.frozen 1) ?_;obtain⟨O,G⟩:∃ O,O=U.setCell ⟨b6,1,none⟩ (.slice a6 (i+1) a5):=⟨_,rfl⟩;rw[show U.setCell ((⟨b6,0,none⟩:Addr).add 1) (.slice a6 (i+1) a5)=O from G.symm];have a9:GrN (λk=>k=b6) U O:=by rw[G];exact GrN.set _ rfl
  have af:Blk O b6 48 [.int .i64 (n:Int),.slice a6 (i+1) a5]:=by rw[G];exact y.set 1 _
  clear G;have ac:Ext w1 U:=Ja a7 aa λg eg=>(b1 g eg).1;refine ρ ?_;refine Ju (i+1) (.slice a6 (i+1) a5) sO ⟨li,a9.old ac λk hk=>by rw[hk];exact aj,af,?_⟩ om;have e1:(vss.map Xt).take (i+1)=(vss.map Xt).take i++[Ur 0 vs]:=by
   rw[Qr 0 (by rw[a3];exact li)];congr 2
   simp[List.getD,li,hq,Xt]
  rw[e1,Xvn];exact Qj a2 a9 λg eg e=>by rw[e]at eg;exact y.ne_own a2 rfl eg.symm
 have az:i=vss.length:=by have:=oF h;omega
 clear h;subst az;rw[<-a3,List.take_length]at B;have ab:=an.ext a1;refine ρ ?_;refine lds (cs:=[.int .i64 (n:Int),.slice EA vss.length ec]) (λj u hu=>J.at hu) ?_;refine ρ ?_;refine stW ab ?_;intro w7 am hg7 ao;have a4:GrV w6 EA ec n (vss.map Xt):=⟨Rd.own B,by rw[a3];exact b2,hn,by rw[a3];exact hm,λe he=>by
  obtain⟨vs,au,rfl⟩:=List.mem_map.1 he;exact Jcd (hlt vs au)⟩
 refine ρ ?_;refine Xh am ⟨EA,ec,?_,⟨?_,a4.cap,a4.n32,a4.few,a4.lt⟩,ao w D b3⟩
 .rw[grC,a3]
 exact Rd.own (Qj B (GrN.by (N:=λk=>k=b4) hg7 λk e=>by injection e with e;exact e.symm) λg eg e=>by rw[e]at eg;exact ab.ne_own B rfl eg.symm)
end Go.Proofs.YtebiphhfkdbpfaaGreatDoor
