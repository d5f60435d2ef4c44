/- Part 4. -/
import Derived.Test.YtebiphhfkdbpfaaGreatP03
import Derived.Laws.CopyRow
set_option linter.unusedVariables false
set_option maxRecDepth 100000
set_option maxHeartbeats 40000000
namespace Go.Proofs.YtebiphhfkdbpfaaGreat
open Go.RowKit Pl Go.Wk
attribute [local irreducible] WC WL QX WD WDB WP WN WG
variable {cs vars:List Nat}{b base c d k n s ty z:Nat}{w:World}
def Xw(vars:List Nat)(s:Nat): List Nat:=(List.range vars.length).filter λi=>s.testBit (vars.getD i 0)
def inS(vars:List Nat)(s:Nat): List Nat:=vars.filter λv=>s.testBit v
theorem Jcj(h:c∈Xw vars s): c<vars.length:=List.mem_range.1 (List.mem_filter.1 h).1
def Zp(vars:List Nat)(s k:Nat): List Nat:=(List.range k).filter λi=>s.testBit (vars.getD i 0)
theorem Jjk(vars:List Nat)(s k:Nat): Zp vars s (k+1)=Zp vars s k++if s.testBit (vars.getD k 0) then[k] else[]:=by grind [Zp,List.range_succ]
theorem Iu(h:k<vars.length): inS (vars.take (k+1)) s=inS (vars.take k) s++if s.testBit (vars.getD k 0) then[vars.getD k 0] else[]:=by grind [inS,Xu,List.filter_cons_of_pos,List.filter_cons_of_neg]
theorem Jjj(vars:List Nat)(s:Nat): ∀ k,k<=vars.length->(Zp vars s k).length=(inS (vars.take k) s).length
 | 0,_=>by simp[Zp,inS]
 | k+1,h=>by
  rw[Jjk,Iu om,List.length_append,List.length_append,Jjj vars s k om];split<;>rfl
theorem bs1Int''(z:Int)(w:World): (Instr.buildSlice 28 1 #[(0,.int .i64 z)]).run Tryz.prog w=.ok (.slice (some ⟨w.heap.size,0,none⟩) 1 1) (w.alloc (.cells [.int .i64 z].toArray 3)):=kr
theorem Qbr(a b:List Nat): nz (a++b)=nz a++nz b:=by simp[nz]
theorem Qft(a b:List Int): Jp (a++b)=Jp a++Jp b:=by simp[Jp]
abbrev Qq(w:World)(base:Nat)(v:Value)(cs:List Nat): Prop:=w.ownsRow base 3 1 v cs.length (Jp (nz cs))
theorem apI{al:AL}{Q:Exit->Act->World->Prop}{ops:Array Oper}{rest:List Oper}{pos:String}{aft:Array Edge}{x y:Operand}{v:Value}(ho:Qq w base v cs)(hb:Blk w b 3 [.int .i64 (z:Int)])(hm:cs.length<=1100000)(hbase:base<=w.heap.size)(kk:∀ v' w',Qq w' base v' (cs++[z])->w.grownBy w' v.ownBlock->(∀ g,v'.ownBlock=some g->v.ownBlock=some g∨w.heap.size<=g)->WL Tryz.prog n ops Q rest ((d,v')::al) w')(hx:ev al x=some v:=by rfl)(hy:ev al y=some (.slice (some ⟨b,0,none⟩) 1 1):=by rfl)(hd:Nat.blt d n=true:=by rfl):
  WL Tryz.prog n ops Q (⟨some d,.call { callee:=.builtin .append,args:=#[x,y],argTypes:=#[28,28] },ty,pos,aft,none⟩::rest) al w:=by
 refine apb (base:=base) EI ho (hb.rd (n:=1) rfl) (λu F=>by rw[List.mem_singleton.1 F];rfl) (by unfold maxLen;omega) om hbase ?_ hx hy hd;intro v' w' D G hn;refine kk v' w' ?_ G hn;rw[Qq,List.length_append,Qbr,Qft];exact D
theorem Jcr(w:World): (Instr.build 37 #[]).run Tryz.prog w=.ok (.agg #[.slice none 0 0,.int .i64 0,.slice none 0 0]) w:=kr
theorem Jtf{t:V3}{rs:List Row}(hA:AtV w t ⟨nz vars,vars.length,rs⟩)(hs:s<4294967296)(hasc:Qo vars)(hlt:∀ v∈vars,v<32)(hlen:∀ r∈rs,r.length=vars.length)(hbig:rs.length<=65536):
  Ret Tryz.prog 9 [.agg t.cells.toArray,.int .u32 (s:Int)] w λu w'=>Ext w w'/\∃ t':V3,u=.tuple #[.agg t'.cells.toArray,.int .i64 0]/\∃ m,Off (λk=>k<w.heap.size) w' (λx=>AtV x t' ⟨nz (inS vars s),(inS vars s).length,m⟩)/\m.length<=65536/\(∀ x∈m,x∈rs.map (pmR (Xw vars s))) /\
   ((rs.length<=65536∨Srt [] (rs.map (pmR (Xw vars s))))->IsSet [] (rs.map (pmR (Xw vars s))) m):=by
 obtain⟨t1,t2,t3⟩:=t;obtain⟨⟨D,d,e1,hd,da,cd⟩,e2,bg⟩:=id hA;simp only at e1 e2;subst e1;subst e2;obtain⟨ps,G,gc,_,c6,_⟩:=id bg;simp only at c6;subst c6;have d2:=Ju vars;have dj:=Jjm hasc hlt;refine Jz Tryz.func9 Tryz.ntmps9 rfl kr rfl ?_;refine ρ ?_;refine bx ?_;intro w1 b c3 hb hB;refine ρ ?_;refine alc Zu ?_;intro w2 br c1 dq bp;have bu:=hB.ext c1;have ay:=c3.trans c1;have ak:Rd w 1 D (nz vars).length (Jp (nz vars)):=cd;clear cd hd da;have mono:∀ i,1<=i->i<vars.length->vars.getD (i-1) 0<vars.getD i 0:=λi h1 h2=>by
  have:=List.pairwise_iff_getElem.1 hasc (i-1) i om h2 om;simpa [List.getD,List.getElem?_eq_getElem h2,List.getElem?_eq_getElem (show i-1<vars.length by omega)] using this
 have b2:∀ i,i<vars.length->vars.getD i 0<32:=λi hi=>hlt _ (getD_mem' 0 _ hi);refine ρ ?_;refine Jl (fun (i:Nat)=>[(1,.int .u32 (s:Int)),(2,.pointer (some ⟨b,0,none⟩)),(4,.pointer (some ⟨br,0,none⟩)),(6,.int .i64 (i:Int))])
  (λi w'=>1<=i/\i<=1000/\Ext w2 w') (λi=>1000-i) 1 sB ⟨nR _,om,Ext.refl _⟩ ?_
 rintro i w3 ⟨d8,dn,af⟩;have ax:=bu.ext af;refine ρ ?_;refine ld (ax.at (i:=0) rfl) ?_;refine ρ ?_;refine ci (λh=>?_) (λh=>?_)
 .have li:i<vars.length:=by have:=oT h;omega
  clear h;have bc:Ext w3 w3.drew:=(Ext.refl w3).drew;have cu:=ax.ext bc;have au:=ak.ext ((ay.trans af).trans bc);refine ρ ?_;refine dr [(0,0),(0,1),(0,2),(0,3),(0,4),(0,5),(0,6),(0,7),(0,8),(0,9),(0,10),(0,11)] kr ?_;refine ρd ?_;refine dld (cu.at (i:=0) rfl) ?_;refine ρd ?_;refine dix (i-1) au om ?_;refine ρd ?_;refine dld (au.cell (Qn (show i-1<vars.length by omega))) ?_;refine ρd ?_;refine dld (cu.at (i:=0) rfl) ?_;refine ρd ?_;refine dix i au om ?_;refine ρd ?_;refine dld (au.cell (Qn li)) ?_;refine ρd ?_;refine ρ ?_;refine cf ?_ ?_
  .exact dF (by have:=mono i d8 li;omega)
  refine ρ ?_;exact Jg (i+1) sO ⟨om,om,af.trans bc⟩ om
 clear h;refine ρ ?_;refine ld (ax.at (i:=0) rfl) ?_;refine ρ ?_;refine Jl (fun (i:Nat)=>[(1,.int .u32 (s:Int)),(2,.pointer (some ⟨b,0,none⟩)),(4,.pointer (some ⟨br,0,none⟩)),(36,.slice D (nz vars).length d),(37,.int .i64 ((nz vars).length:Int)),(38,.int .i64 (i:Int))])
  (λi w'=>i<=vars.length/\Ext w3 w') (λi=>vars.length-i) 0 sB ⟨Nat.zero_le _,Ext.refl _⟩ ?_
 rintro i w4 ⟨hi,ap⟩;have ae:=(ay.trans af).trans ap;have dg:=ax.ext ap;refine ρ ?_;refine ci (λh=>?_) (λh=>?_)
 .have li:i<vars.length:=by have:=oT h;omega
  clear h;have co:=ak.ext ae;refine ρ ?_;refine ix i co om ?_;refine ρ ?_;refine ld (co.cell (Qn li)) ?_;refine ρ ?_;refine cf ?_ ?_
  .exact dF (by have:=b2 i li;omega)
  refine ρ ?_;exact Jg (i+1) sO ⟨om,ap⟩ om
 have d9:i=vars.length:=by have:=oF h;omega
 clear h hi d9;have a8:Ext w4 w4.drew:=(Ext.refl w4).drew;have b7:=dg.ext a8;refine ρ ?_;refine dr [(0,0),(0,1),(0,2),(0,3),(0,4),(1,5),(0,6)] kr ?_;refine ρd ?_;refine dld (b7.at (i:=0) rfl) ?_;refine ρd ?_;refine Qj (cs:=[.int .i64 (vars.length:Int),.slice G ps.length gc]) (b7.sub2 (i:=1) rfl rfl) ?_;refine ρd ?_;refine dcl (Jqf ((hA.ext (ae.trans a8)).rel)) ?_;rintro u w5 ⟨rfl,bf⟩;refine⟨bf,?_⟩;refine ρd ?_;refine ρ ?_;refine cf ?_ ?_
 .exact bne_f (by rw[d2])
 have ad:=(ae.trans a8).trans bf;have a6:Ext w2 w5:=((af.trans ap).trans a8).trans bf;refine ρ ?_;refine alc Zu ?_;intro w6 bq be dt cr;have bt:=(bu.ext a6).ext be;have bz:=ad.trans be;have b6:=(bp.ext a6).ext be;refine ρ ?_;refine ld (bt.at (i:=0) rfl) ?_;refine ρ ?_;refine Zk (fun (k:Nat) (vv vc:Value)=>[(1,.int .u32 (s:Int)),(2,.pointer (some ⟨b,0,none⟩)),(4,.pointer (some ⟨br,0,none⟩)),(9,.pointer (some ⟨bq,0,none⟩)),(10,vc),(59,.slice D (nz vars).length d),(60,.int .i64 ((nz vars).length:Int)),(61,.int .i64 (k:Int))])
  (λk vv vc w'=>k<=vars.length/\Ext w w'/\Blk w' b 37 [.slice D (nz vars).length d,.int .i64 (vars.length:Int),.slice G ps.length gc]/\Blk w' br 37 [.slice none 0 0,.int .i64 0,.slice none 0 0]/\Blk w' bq 37 [vv,.int .i64 0,.slice none 0 0] /\
   Qq w' w.heap.size vv (inS (vars.take k) s)/\Qq w' w.heap.size vc (Zp vars s k)/\∀ g,vv.ownBlock=some g->vc.ownBlock≠some g) (λk _ _=>vars.length-k) 0 (.slice none 0 0) (.slice none 0 0) sB
  ⟨Nat.zero_le _,bz,bt,b6,cr,Xj _ _ _ _,Xj _ _ _ _,λg e=>(by cases e)⟩ ?_
 clear bt b6 cr;rintro k vv vc w7 ⟨hk,a7,aw,a2,a4,a5,ac,ai⟩;refine ρ ?_;refine ci (λh=>?_) (λh=>?_)
 .have lk:k<vars.length:=by have:=oT h;omega
  clear h;have cn:=ak.ext a7;have ce:=Jjj vars s k om;have dm:(inS (vars.take k) s).length<=32:=by
   have:=List.length_filter_le (λv=>s.testBit v) (vars.take k);rw[List.length_take]at this;unfold inS;omega
  refine ρ ?_;refine ix k cn om ?_;refine ρ ?_;refine ld (cn.cell (Qn lk)) ?_;refine ρ ?_;refine sr32 (s:=s) (v:=vars.getD k 0) (by have:=b2 k lk;omega) ?_;refine ρ ?_;refine ci (λh=>?_) (λh=>?_)
  .rw[Jxj hs]at h;refine ρ ?_;refine ld (a4.at (i:=0) rfl) ?_;refine ρ ?_;refine bsl (bs1Int'' _) ?_;intro w8 b8 y du df;refine ρ ?_;refine apI (Jb a5 y) df om (a7.trans y).size ?_;intro U w9 aq aa c9;have Z:∀ {w':World} {cs:List Nat} {v:Value},Qq w' w.heap.size v cs->∀ g,v.ownBlock=some g->w.heap.size<=g/\g<w'.heap.size:=λho g F=>by
    obtain⟨_,_,_,_,hf⟩:=Jy ho;exact hf g F
   have ao:Ext w w9:=Jr (a7.trans y) aa (λg F=>(Z a5 g F).1);have a3:=(a4.ext y).grown aa ((a4.ext y).ne_own (Jb a5 y) rfl);have av:=(aw.ext y).grown aa ((aw.ext y).ne_own (Jb a5 y) rfl);have b5:=(a2.ext y).grown aa ((a2.ext y).ne_own (Jb a5 y) rfl);have bm:Qq w9 w.heap.size vc (Zp vars s k):=Jo (Jb ac y) (GrN.by aa λg F=>F) (λg F e=>ai g e F);have b4:∀ g,U.ownBlock=some g->vc.ownBlock≠some g:=λg F e=>by
    rcases c9 g F with h'|h'
    .exact ai g h' e
    have:=(Z ac g e).2;have:=y.size;omega
   have dh:U.oneCell'=true:=by obtain⟨_,_,e,_⟩:=Jy aq;rw[e];rfl
   refine ρ ?_;refine sto (p:=⟨bq,0,none⟩) (a3.cell 0) (a3.frozen _) ?_ (hv:=dh);have bh:w9.grownBy (w9.setCell ⟨bq,0,none⟩ U) (some bq):=Jgn _;have cq:=a3.set 0 U;have c0:Ext w (w9.setCell ⟨bq,0,none⟩ U):=ao.setCell (by simp only;have:=ad.size;omega) _;have c5:Qq (w9.setCell ⟨bq,0,none⟩ U) w.heap.size U (inS (vars.take k) s++[vars.getD k 0]):=Jo aq (GrN.by bh λg F=>F) (λg F e=>by injection e with e;subst e;exact a3.ne_own aq rfl F.symm);have bj:Qq (w9.setCell ⟨bq,0,none⟩ U) w.heap.size vc (Zp vars s k):=Jo bm (GrN.by bh λg F=>F) (λg F e=>by injection e with e;subst e;exact a3.ne_own bm rfl F.symm);have ba:∀ {x:Nat},x<w5.heap.size->x≠bq:=λh e=>by omega
   have de:Blk (w9.setCell ⟨bq,0,none⟩ U) b 37 _:=av.far (ba (by have:=bu.lt;have:=a6.size;omega)) _;have cp:Blk (w9.setCell ⟨bq,0,none⟩ U) br 37 _:=b5.far (ba (by have:=bp.lt;have:=a6.size;omega)) _;generalize w9.setCell ⟨bq,0,none⟩ U=an at *
   clear a3 av b5 bm ao aa bh aq c9;refine ρ ?_;refine bsl (bs1Int'' _) ?_;intro bb dw O dl cv;refine ρ ?_;refine apI (Jb bj O) cv om (c0.trans O).size ?_;intro bw a9 cg a1 ca;have ah:Ext w a9:=Jr (c0.trans O) a1 (λg F=>(Z bj g F).1);have nb:∀ {g:Nat} {cs:List Value},Blk an g 37 cs->Blk a9 g 37 cs:=λh=>(h.ext O).grown a1 ((h.ext O).ne_own (Jb bj O) rfl);refine ρ ?_;refine Qa (k+1) U bw sO ⟨om,ah,nb de,nb cp,nb cq,?_,?_,λg F e=>?_⟩ om
   .rw[Iu lk,if_pos h];exact Jo (Jb c5 O) (GrN.by a1 λg F=>F) (λg F e=>b4 g F e)
   .rw[Jjk,if_pos h];exact cg
   rcases ca g e with h'|h'
   .exact b4 g F h'
   have:=(Z c5 g F).2;have:=O.size;omega
  rw[Jxj hs]at h;have hf:¬ s.testBit (vars.getD k 0)=true:=by rw[h];simp
  refine ρ ?_;refine Qa (k+1) vv vc sO ⟨om,a7,aw,a2,a4,?_,?_,ai⟩ om
  .rw[Iu lk,if_neg hf,List.append_nil];exact a5
  rw[Jjk,if_neg hf,List.append_nil];exact ac
 have d6:k=vars.length:=by have:=oF h;omega
 subst d6;clear h;rw[List.take_length]at a5;have db:Zp vars s vars.length=Xw vars s:=rfl;rw[db]at ac;obtain⟨VA,cz,bv,d0,_⟩:=Jy a5;obtain⟨CA,di,cy,dc,_⟩:=Jy ac;have bl:(Xw vars s).length<=32:=by
  have:=List.length_filter_le (λi=>s.testBit (vars.getD i 0)) (List.range vars.length);rw[List.length_range]at this;unfold Xw;omega
 have d7:(inS vars s).length<=32:=by
  have:=List.length_filter_le (λv=>s.testBit v) vars;unfold inS;omega
 refine ρ ?_;refine lds (cs:=[.int .i64 (vars.length:Int),.slice G ps.length gc]) (aw.sub2 (i:=1) rfl rfl) ?_;refine ρ ?_;have ar:IntsV w7 vc (nz (Xw vars s)):=by
  refine⟨CA,di,by rw[Ju];exact cy,by rw[Ju];exact dc,by rw[Ju];omega,?_⟩;rw[Ju];have:=ac;rw[cy]at this;exact Rd.own this
 refine cl (Jhk (cs:=Xw vars s) ((hA.ext a7).rel) ar hlen (λc hc=>Jcj hc) bl hbig) ?_;rintro u w8 ⟨y,rv,rfl,⟨z,RB,rm,rd,rfl⟩,m,c8,d5,d3,c7⟩;refine ρ ?_;refine alc Yu ?_;intro w9 b9 ao dd av;refine ρ ?_;refine stb (cs':=[.int .i64 z,.slice RB rm rd]) av ?_ Vy;intro an cw dk c2;have J:Ext w8 an:=c2 w8 ao dd;refine ρ ?_;refine ldW cw ?_;have am:=(a4.ext y).ext J;refine ρ ?_;refine stB (o:=1) (us:=[.int .i64 z,.slice RB rm rd]) am (by simp) Vy ?_;intro bb bs aj;refine ρ ?_;refine ldW bs ?_;have ck:w.heap.size<=bq:=by have:=ad.size;omega
 have bd:Ext w bb:=Jbl ((a7.trans y).trans J) aj ck;have cj:br≠bq:=by have:=bp.lt;have:=a6.size;omega
 have bo:Blk bb br 37 _:=((a2.ext y).ext J).grown aj (λe=>by injection e with e;exact cj e);refine ρ ?_;refine stb (cs':=[vv,.int .i64 z,.slice RB rm rd]) bo ?_ (λu hu=>by
  simp only[List.mem_cons,List.not_mem_nil,or_false]at hu;rcases hu with rfl|rfl|rfl
  .rw[bv];rfl
  .rfl
  rfl)
 intro a9 bn a1 _;refine ρ ?_;have ch:w.heap.size<=br:=by have:=c3.size;omega
 have ah:Ext w a9:=Jbl bd a1 ch;refine Zz bn ⟨ah,(vv,.int .i64 z,.slice RB rm rd),rfl,m,?_,d5,d3,c7⟩;have cb:GrN (λk=>k=bq∨k=br) an a9:=(GrN.by aj λk e=>.inl (by injection e with e;exact e.symm)).trans (GrN.by a1 λk e=>.inr (by injection e with e;exact e.symm));have cm:bq<w7.heap.size/\br<w7.heap.size:=⟨a4.lt,a2.lt⟩;intro w' cc;have bi:GrN (λk=>k<w7.heap.size) w8 w':=((GrN.ext J).trans (cb.mono λk _ hk=>by rcases hk with rfl|rfl;(exact cm.1);exact cm.2)).trans (cc.mono λk _ hk=>nM hk a7.size);obtain⟨rv,cx,d1⟩:=c8 w' bi;have b3:(Value.int .i64 z)=.int .i64 ((Xw vars s).length:Int)/\Value.slice RB rm rd=rv:=by
  simp only[Value.agg.injEq,Array.mk.injEq,List.cons.injEq,and_true]at cx;exact cx
 have c4:Qq w' w.heap.size vv (inS vars s):=by
  have h1:=Jb (Jb a5 y) J;have h2:Qq a9 w.heap.size vv (inS vars s):=Jo h1 cb λg F hk=>by
   rcases hk with rfl|rfl
   .exact am.ne_own h1 rfl F.symm
   exact((a2.ext y).ext J).ne_own h1 rfl F.symm
  refine Jo h2 cc λg F hk=>?_;obtain⟨_,_,_,_,hf⟩:=Jy h2;have:=(hf g F).1;omega
 have ce:(Xw vars s).length=(inS vars s).length:=by
  have:=Jjj vars s vars.length (nR _);rw[List.take_length]at this;exact this
 refine⟨⟨VA,cz,by rw[Ju];exact bv,by rw[Ju];exact d0,by rw[Ju];omega,?_⟩,?_,?_⟩
 .rw[Ju];rw[bv]at c4;exact Rd.own c4
 .simp only;rw[<-ce];exact b3.1
 simp only;rw[b3.2];exact d1
open Go.RowKit Pl Go.Wk
variable {nums vars:List Nat}{ls rs:List Row}{ar b s:Nat}{w:World}
def RowG(w:World)(cs:List Value)(z:Row): Prop:=∃ v,cs=[v]/\RowV w v z
theorem RowG.ext{w w':World}{cs:List Value}{z:Row}(h:RowG w cs z)(hx:Ext w w'): RowG w' cs z:=by
 obtain⟨v,e,u⟩:=h;exact⟨v,e,u.ext hx⟩
theorem Jhc: ∀(ps:List (List Value×Row)) (w:World),(∀ p∈ps,RowG w p.1 p.2)->∃ qs:List Pr,qs.map (·.2)=ps.map (·.2)/\qs.map (·.1)=Jd ps/\qs.length=ps.length/\∀ q∈qs,RowV w q.1 q.2
 | [],w,_=>⟨[],rfl,rfl,rfl,λq hq=>by cases hq⟩
 | p::ps,w,h=>by
  obtain⟨qs,h1,h2,h3,h4⟩:=Jhc ps w λq hq=>h q (List.mem_cons_of_mem _ hq);obtain⟨v,e,hr⟩:=h p (mC ..);refine⟨(v,p.2)::qs,by simp[h1],?_,by simp[h3],λq hq=>?_⟩;repeat grind [Jd,List.mem_cons.1]
theorem Qkn{v:Value}(h:GV 1 RowG w v ls): RowsV w v ls:=by
 obtain⟨ps,A,c,e,F,D,y,u,J⟩:=h;obtain⟨G,h1,h2,Z,U⟩:=Jhc ps w λp O=>(J p O).2;rw[<-Z]at F D y u;exact⟨G,A,c,by rw[e,h1],F,D,y,by rw[h2];exact u,U⟩
def YM(b:Nat)(base:Nat)(l:List Row)(w:World): Prop:=b<base/\∃ v,Blk w b 33 [v]/\OwnG 73 1 RowG w base v l
theorem Qcv(hb:b<s): YZ s (.func (.func 37) #[] #[.pointer (some ⟨b,0,none⟩)]) (λk=>k=b) (YM b):=by
 refine⟨λbase l w w' h hg=>?_,_,_,_,rfl,λbase l w w1 vr z F h hx hr hl=>?_⟩
 .obtain⟨D,v,hB,hO⟩:=h;exact⟨D,v,Ja hB hg (λe=>om),hO.gr hg λk hk=>hk.2⟩
 obtain⟨D,v,hB,hO⟩:=h;have O:=hB.ext hx;have G:=hO.ext hx;obtain⟨RA,rn,rc,a6,_,_,_⟩:∃ A n c,vr=.slice A n c/\True/\True/\True:=by obtain⟨A,c,e,_⟩:=hr;exact⟨A,_,c,e,trivial,trivial,trivial⟩
 refine Jz Tryz.func37 Tryz.ntmps37 rfl kr rfl ?_;refine ρ ?_;refine ld (O.at (i:=0) rfl) ?_;refine ρ ?_;refine bsl (cs:=[vr]) (λw=>Jsk vr w RA rn rc a6) ?_;intro w2 b2 y ah ac;obtain⟨_,_,_,_,hf⟩:=G.form;have hΦ:Off (Vp base v) w2 (λu=>RowG u [vr] z):=((hr.off.mono λk hk h=>by
  rcases h with h|h
  .omega
  obtain⟨_,_,_,_,a9⟩:=hO.form;exact(a9 k h).2).imp λu h=>⟨vr,rfl,h⟩).ext y
 refine ρ ?_;refine apG ER (Φ:=RowG) (G.ext y) ac rfl (λu hu=>by rw[List.mem_singleton.1 hu,a6];rfl) hΦ om om (nL F (hx.trans y).size) ?_;intro Z U a4 a3 ad;obtain⟨A3,c3,e3,af,ae⟩:=a4.form;have a1:GrN (λk=>k=b∨base<=k) w1 U:=(GrN.ext y).trans (GrN.by a3 λk ek=>.inr (hf k ek).1);have a7:some b≠v.ownBlock:=by
  obtain⟨ps,_,ho,_⟩:=G;exact O.ne_own ho rfl
 have J:Blk U b 33 [v]:=(O.ext y).grown a3 a7;refine ρ ?_;refine sto (p:=⟨b,0,none⟩) (J.cell 0) (J.frozen _) ?_ (hv:=by rw[e3];rfl);have a5:=J.set 0 Z;have a2:GrN (λk=>k=b) U (U.setCell ⟨b,0,none⟩ Z):=GrN.set _ rfl;refine ρ ?_;have a8:(l++[z]).length=l.length+1:=by simp
 rw[a8]at e3;refine ld (v:=.slice A3 (l.length+1) c3) ((a5.at (i:=0) rfl).trans (by simp[e3])) ?_;refine ρ ?_;have aa:OwnG 73 1 RowG (U.setCell ⟨b,0,none⟩ Z) base Z (l++[z]):=a4.gr a2 λk hk=>by omega
 refine Jq ⟨?_,⟨D,Z,a5,aa⟩,a1.trans (a2.mono λk _ hk=>.inl hk)⟩;rw[decide_eq_true (show((l.length+1:Nat):Int)<=65536 by omega)]
theorem Qng(z:Int)(A:Option Addr)(n c:Nat)(w:World): (Instr.build 37 #[(1,.agg #[.int .i64 z,.slice A n c])]).run Tryz.prog w=.ok (.agg #[.slice none 0 0,.int .i64 z,.slice A n c]) w:=kr
theorem Qcw{Na:Option Addr}{t:V3}(hA:AtV w t ⟨nz vars,ar,rs⟩)(hB:Blk w b 28 [.slice Na nums.length nums.length])(hN:Rd w 1 Na nums.length (Jp (nz nums)))(hlt:∀ v∈vars,v<nums.length)(hl:vars.length<=1000):
  Ret Tryz.prog 35 [.agg t.cells.toArray,.pointer (some ⟨b,0,none⟩)] w λu w'=>Ext w w'/\∃ v1,u=.agg #[v1,t.2.1,t.2.2]/\Off (λk=>k<w.heap.size) w' (λx=>IntsV x v1 (nz (vars.map λv=>nums.getD v 0))):=by
 obtain⟨t1,t2,t3⟩:=t;obtain⟨⟨D,d,e1,hd,bh,ap⟩,e2,af⟩:=id hA;simp only at e1 e2;subst e1;subst e2;obtain⟨ps,G,gc,_,ak,_⟩:=id af;simp only at ak;subst ak;have bq:=Ju vars;have ao:Rd w 1 D (nz vars).length (Jp (nz vars)):=ap;clear ap hd bh;refine Jz Tryz.func35 Tryz.ntmps35 rfl kr rfl ?_;refine ρ ?_;refine bx ?_;intro w1 b1 ac bw b7;refine ρ ?_;refine alc Zu ?_;intro w2 b2 a5 bv b4;refine ρ ?_;refine lds (cs:=[.int .i64 (ar:Int),.slice G ps.length gc]) ((b7.ext a5).sub2 (i:=1) rfl rfl) ?_;refine ρ ?_;refine bld (Qng _ _ _ _ _) ?_;refine ρ ?_;refine alc Zu ?_;intro w3 b3 bb bj bo;refine ρ ?_;refine stb (cs':=[.slice none 0 0,.int .i64 (ar:Int),.slice G ps.length gc]) bo ?_ (λu hu=>by
  simp only[List.mem_cons,List.not_mem_nil,or_false]at hu;rcases hu with rfl|rfl|rfl<;>rfl)
 intro w4 bn bt ba;have a3:Ext w2 w4:=ba w2 bb bj;have ah:Ext w w4:=(ac.trans a5).trans a3;have b5:=(b7.ext a5).ext a3;have ay:=b4.ext a3;refine ρ ?_;refine ld (b5.at (i:=0) rfl) ?_;refine ρ ?_;refine Qd (fun (k:Nat) (vv:Value)=>[(1,.pointer (some ⟨b,0,none⟩)),(3,.pointer (some ⟨b2,0,none⟩)),(4,.pointer (some ⟨b3,0,none⟩)),(11,.slice D (nz vars).length d),(12,.int .i64 ((nz vars).length:Int)),(13,.int .i64 (k:Int))])
  (λk vv w'=>k<=vars.length/\Ext w w'/\Blk w' b2 37 [.slice none 0 0,.int .i64 0,.slice none 0 0]/\Blk w' b3 37 [vv,.int .i64 (ar:Int),.slice G ps.length gc]/\Qq w' w.heap.size vv ((vars.take k).map λv=>nums.getD v 0)) (λk _=>vars.length-k) 0 (.slice none 0 0) sB
  ⟨Nat.zero_le _,ah,ay,bn,Xj _ _ _ _⟩ ?_
 rintro k vv w5 ⟨hk,a1,Z,aa,a2⟩;refine ρ ?_;refine ci (λh=>?_) (λh=>?_)
 .have lk:k<vars.length:=by have:=oT h;omega
  clear h;have av:=ao.ext a1;have ai:=hlt _ (getD_mem' 0 _ lk);obtain⟨own,J⟩:∃ own,own=vv.ownBlock:=⟨_,rfl⟩;have an:∀ j,own=some j->w.heap.size<=j:=λj ej=>by
   obtain⟨_,_,_,_,hf⟩:=Jy a2;exact(hf j (by rw[<-J];exact ej)).1
  have bs:((vars.take k).map λv=>nums.getD v 0).length<=1000:=by simp;omega
  refine ρ ?_;refine ix k av om ?_;refine ρ ?_;refine ld (av.cell (Qn lk)) ?_;refine ρ ?_;refine drN (one own) 8 [(0,0),(0,1),(0,2),(0,3),(0,4),(0,5),(1,6),(1,7),(0,8),(2,9)] kr ?_;have F:Ext w5 w5.drew:=(Ext.refl w5).drew;have O:=aa.ext F;have bl:=hB.ext (a1.trans F);have au:=hN.ext (a1.trans F);have a6:=Jb a2 F;have n3:¬ one own b3:=λe=>O.ne_own a6 rfl (by rw[<-J];exact e.symm);have a9:∀ {g:Nat},g<w.heap.size->¬ one own g:=λhg e=>by have:=an _ e;omega
  refine ρn ?_;refine nld (Qf (O.at (i:=0) rfl) n3) ?_;refine ρn ?_;refine nld (Qf (bl.at (i:=0) rfl) (a9 hB.lt)) ?_;refine ρn ?_;refine nix (vars.getD k 0) au ai ?_;refine ρn ?_;refine nld (λw' hg=>(Zg au hg (λh0 ad e=>a9 (by
   obtain⟨bz,e',am,_⟩:=hN.2 h0;rw[e]at e';injection e' with e';subst e';exact am))).cell (Qn ai)) ?_
  refine ρn ?_;refine nop ?_;refine bsl (bs1Int'' _) ?_;intro w6 b6 y bu bm;refine ρ ?_;refine Qg (GrN.ext y) ?_;refine nop ?_;refine apI (Jb a6 y) bm om (((a1.trans F).trans y).size) ?_;intro a4 w7 ae a7 br;refine ρ ?_;refine Qg (GrN.by a7 λj ej=>by rw[<-J]at ej;exact ej) ?_;refine ρn ?_;refine Xm ?_;have U:=(O.ext y).grown a7 ((O.ext y).ne_own (Jb a6 y) rfl);have aw:=((Z.ext F).ext y).grown a7 (((Z.ext F).ext y).ne_own (Jb a6 y) rfl);have b9:Ext w w7:=Jr ((a1.trans F).trans y) a7 (λj ej=>an j (by rw[J];exact ej));have bp:a4.oneCell'=true:=by obtain⟨_,_,e,_⟩:=Jy ae;rw[e];rfl
  refine sto (p:=⟨b3,0,none⟩) (U.cell 0) (U.frozen _) ?_ (hv:=bp);have bf:GrN (λk=>k=b3) w7 (w7.setCell ⟨b3,0,none⟩ a4):=GrN.set _ rfl;have bi:w.heap.size<=b3:=by have:=(ac.trans a5).size;omega
  refine ω5 ?_;refine Uf ?_;refine ρn ?_;refine ρ ?_;refine Qv (k+1) a4 sO ⟨om,b9.setCell bi _,aw.far (by simp only;have:=b4.lt;omega) _,U.set 0 a4,?_⟩ om;rw[Xu 0 lk,List.map_append];exact Jo ae bf (λg eg e=>by subst e;exact U.ne_own ae rfl eg.symm)
 have be:k=vars.length:=by have:=oF h;omega
 subst be;clear h;rw[List.take_length]at a2;obtain⟨VA,b8,a8,aj,bc⟩:=Jy a2;rw[List.length_map]at a8 aj;refine ρ ?_;refine ldW aa ?_;refine ρ ?_;refine stb (cs':=[vv,.int .i64 (ar:Int),.slice G ps.length gc]) Z ?_ (λu hu=>by
  simp only[List.mem_cons,List.not_mem_nil,or_false]at hu;rcases hu with rfl|rfl|rfl
  .rw[a8];rfl
  .rfl
  rfl)
 intro w6 ax bg y;refine ρ ?_;have aq:w.heap.size<=b2:=by have:=ac.size;omega
 refine Zb ax ⟨y w a1 aq,vv,rfl,?_⟩;have bd:Qq w6 w.heap.size vv (vars.map λv=>nums.getD v 0):=Jo a2 (GrN.by bg λg eg=>eg) (λg eg e=>by injection e with e;subst e;exact Z.ne_own a2 rfl eg.symm);refine(Jqk bd (λg eg hk=>by have:=(bc g eg).1;omega)).imp λx h=>⟨VA,b8,by rw[Ju,List.length_map];exact a8,by rw[Ju,List.length_map];exact aj,by rw[Ju,List.length_map];omega,?_⟩;rw[a8]at h;rw[Ju,List.length_map];simp only[List.length_map]at h;exact Rd.own h
end Go.Proofs.YtebiphhfkdbpfaaGreat
namespace Go.Proofs.YtebiphhfkdbpfaaGreat
open Pl Go.Wk
variable {vars vs:List Nat}{k m n s u v:Nat}
def bk(s v:Nat): List Nat:=(List.range v).filter λu=>s.testBit u
theorem bk_mem: u∈bk s v↔u<v/\s.testBit u=true:=by simp[bk]
theorem Jcs(s v:Nat): bk s (v+1)=bk s v++if s.testBit v then[v] else[]:=by grind [bk,List.range_succ]
theorem Kb(s v:Nat): Qo (bk s v):=List.Pairwise.sublist List.filter_sublist List.pairwise_lt_range
theorem Jct(s v:Nat): (bk s v).length<=v:=by
 have:=List.length_filter_le (λu=>s.testBit u) (List.range v);rw[List.length_range]at this;exact this
theorem Jms(s n:Nat): ∀ u,u<=n->lv (bk s n) u=(bk s u).length
 | 0,_=>by rw[Jqr];rfl
 | u+1,h=>by
  have ih:=Jms s n u om;rw[Jcs,List.length_append,<-ih];by_cases hb:s.testBit u=true
  .rw[if_pos hb,(Vc (Kb s n) (bk_mem.2 ⟨om,hb⟩)).1];rfl
  rw[if_neg hb,Kq (λh'=>hb (bk_mem.1 h').2)];rfl
theorem Jyw(ha:Qo vs)(hk:k<vs.length): lv vs (vs.getD k 0)=k:=by
 obtain⟨_,u,y⟩:=Vc ha (getD_mem' 0 vs hk);exact Jlx (Jtn ha) u hk ((Ql 0 vs u).symm.trans (y.trans (Ql 0 vs hk)))
theorem Jcv(hs:s<2^n)(h:s.testBit u=true): u<n:=by grind [Nat.lt_or_ge,Nat.testBit_lt_two_pow,Nat.lt_of_lt_of_le,Nat.pow_le_pow_right]
def Zv(s v:Nat): List Nat:=(List.range 32).map λu=>if u<v/\s.testBit u=true then(bk s u).length else 0
theorem Ih(s v:Nat): (Zv s v).length=32:=by simp[Zv]
theorem Qbs(hu:u<32)(h:s.testBit u=true): (Zv s 32).getD u 0=lv (bk s 32) u:=by grind [Jms,Zv,List.getD]
theorem Jlv(hv:v<32): Zv s (v+1)=if s.testBit v then(Zv s v).set v (bk s v).length else Zv s v:=by
 apply List.ext_getElem?
 grind [Ih,Zv,List.getElem?_range,Nat.lt_or_ge]
def rnm(vars:List Nat)(s:Nat): List Nat:=(inS vars s).map λv=>lv (bk s 32) v
theorem inS_mem: v∈inS vars s↔v∈vars/\s.testBit v=true:=by simp[inS]
theorem Qfz(h:Qo vars): Qo (inS vars s):=List.Pairwise.sublist List.filter_sublist h
theorem Qdf(ha:Qo vs)(hu:u∈vs)(h:u<v): lv vs u<lv vs v:=by
 have y:=(Vc ha hu).1;have mono:∀ k,lv vs (u+1)<=lv vs (u+1+k):=by
  intro k;induction k with
  | zero=>exact nR _
  | succ k ih=>
   by_cases h:u+1+k∈vs
   repeat grind [Vc,Nat.add_assoc,Kq]
 have:=mono (v-(u+1));grind
theorem Qwc(h:Qo vars)(hl:∀ v∈vars,v<32): Qo (rnm vars s):=by
 unfold rnm Qo;rw[List.pairwise_map];refine List.Pairwise.imp_of_mem (fun {u v} hu hv huv=>?_) (Qfz (s:=s) h);exact Qdf (Kb s 32) (bk_mem.2 ⟨hl u (inS_mem.1 hu).1,(inS_mem.1 hu).2⟩) huv
theorem Qwb(hl:∀ v∈vars,v<32)(hk:k∈rnm vars s): k<(bk s 32).length:=by
 obtain⟨v,u,rfl⟩:=List.mem_map.1 hk;obtain⟨D,y⟩:=inS_mem.1 u;exact(Vc (Kb s 32) (bk_mem.2 ⟨hl v D,y⟩)).2.1
theorem Jhh(vars:List Nat)(s:Nat): (rnm vars s).length=(inS vars s).length:=by simp[rnm]
def Jjp(m:Nat)(vars:Nat->List Nat)(rs:Nat->List Row)(s:Nat)(z:Row): Prop:=∀ i,i<m->∃ r∈rs i,∀ j,j<(vars i).length->s.testBit ((vars i).getD j 0)=true->r.getD j V0=z.getD ((vars i).getD j 0) V0
theorem Jrm{vars:List Nat}{s:Nat}{r z:Row}(hr:r.length=vars.length): ∀ k,k<=vars.length->(pmR (Zp vars s k) r=pmR (inS (vars.take k) s) z↔∀ j,j<k->s.testBit (vars.getD j 0)=true->r.getD j V0=z.getD (vars.getD j 0) V0)
 | 0,_=>by simp[Zp,inS,pmR]
 | k+1,h=>by
  have ih:=Jrm (s:=s) (z:=z) hr k om;grind [Jjj,Jjk,Iu,pmR,Zp,V0,inS,List.append_inj,Zj]
theorem Qct{vars:Nat->List Nat}{rs ms:Nat->List Row}(hs:s<2^n)(hn:n<=32)(hlt:∀ i,i<m->∀ v∈vars i,v<n)(hlen:∀ i,i<m->∀ r∈rs i,r.length=(vars i).length)(hms:∀ i,i<m->∀ x,x∈ms i↔x∈(rs i).map (pmR (Xw (vars i) s)))(x:Row):
  Gy (bk s 32).length m (λi=>rnm (vars i) s) ms x↔∃ z:Row,z.length=n/\x=pmR (bk s 32) z/\Jjp m vars rs s z:=by
 have key:∀ z:Row,∀ i,i<m->(pmR (rnm (vars i) s) (pmR (bk s 32) z)∈ms i↔∃ r∈rs i,∀ j,j<(vars i).length->s.testBit ((vars i).getD j 0)=true->r.getD j V0=z.getD ((vars i).getD j 0) V0):=λz i hi=>by
  have e:pmR (rnm (vars i) s) (pmR (bk s 32) z)=pmR (inS (vars i) s) z:=by
   unfold rnm pmR;rw[List.map_map];refine List.map_congr_left λv J=>?_;obtain⟨h1,D⟩:=inS_mem.1 J;have G:v∈bk s 32:=bk_mem.2 ⟨by grind,D⟩;obtain⟨_,h4,h5⟩:=Vc (Kb s 32) G;grind
  rw[e,hms i hi,List.mem_map];have hk:∀ r∈rs i,(pmR (Xw (vars i) s) r=pmR (inS (vars i) s) z↔∀ j,j<(vars i).length->s.testBit ((vars i).getD j 0)=true->r.getD j V0=z.getD ((vars i).getD j 0) V0):=λr Z=>by
   have:=Jrm (s:=s) (z:=z) (hlen i hi r Z) (vars i).length (nR _);rw[List.take_length]at this;exact this
  grind
 constructor
 .rintro⟨hl,hx⟩;let z:Row:=(List.range n).map λu=>x.getD (lv (bk s 32) u) V0
  have y:z.length=n:=by simp[z]
  have F:x=pmR (bk s 32) z:=by
   apply List.ext_getElem
   .rw[Zj];exact hl
   intro k h1 D;rw[Zj]at D;have U:=bk_mem.1 (getD_mem' 0 _ D);have O:=Jcv hs U.2;have h3:=Jlf (z:=z) D;grind [Ql,V0,Zj,bk,lv,List.getD,List.getElem?_range,Jyw,Kb]
  refine⟨z,y,F,λi hi=>?_⟩;grind
 rintro⟨z,y,rfl,G⟩;exact⟨Zj _ _,λi hi=>(key z i hi).2 (G i hi)⟩
end Go.Proofs.YtebiphhfkdbpfaaGreat
namespace Go.Wk
open Go.RowKit
variable {b n t ty:Nat}
theorem stb1{P:Program}{al:AL}{w:World}{Q:Exit->Act->World->Prop}{ops:Array Oper}{rest:List Oper}{pos:String}{aft:Array Edge}{tt:TT}[h:Tab P tt]{x y:Operand}{k:TK}{u v:Value}(hb:Blk w b t [u])(kk:∀ w1,Blk w1 b t [v]->w.grownBy w1 (some b)->(∀ a,Ext a w->a.heap.size<=b->Ext a w1)->WL P n ops Q rest al w1)(hv:v.oneCell'=true)(ht:tk tt t=some k:=by rfl)(hk:k.size=1:=by rfl)(hp:Zw k.desc=true:=by rfl)(hx:ev al x=some (.pointer (some ⟨b,0,none⟩)):=by rfl)(hy:ev al y=some v:=by rfl):
  WL P n ops Q (⟨none,.store t x y,ty,pos,aft,none⟩::rest) al w :=
 Jdh h.ok ht hk hp hx hy hv (hb.cell 0) (hb.frozen 0) (kk _ (hb.set 0 v) ⟨rfl,rfl,rfl,by simp[World.setCell],λk hk hn=>Below.heap_setCell w ⟨b,0,none⟩ v k (λe=>hn (by rw[e]))⟩ λa F D=>F.setCell D v)
end Go.Wk
namespace Go.Proofs.YtebiphhfkdbpfaaGreat
open Go.RowKit Pl Go.Wk
attribute [local irreducible] WC WL QX WD WDB WP WN WG
variable {cs vs:List Nat}{ts ts':List TA}{base c ca n s:Nat}{vars:Nat->List Nat}{ms rs:Nat->List Row}{A Aa:Option Addr}{v:Value}{w:World}
structure MOk(n:Nat)(ts:List TA)(vars:Nat->List Nat)(rs:Nat->List Row)(s:Nat): Prop where
 run:RunOk n ts vars rs
 sb:s<2^n
 valid:∀ i,i<ts.length->∀ r∈rs i,r.all Xo=true
 srtP:∀ i,i<ts.length->(rs i).length<=65536∨Srt [] ((rs i).map (pmR (Xw (vars i) s)))
theorem Qnz(h:Qo vs): Un (nz vs):=λj y u=>by
 rw[Ju]at u;rw[Jlt u,Jlt (show j-1<vs.length by omega)];have:=List.pairwise_iff_getElem.1 h (j-1) j om u om;grind
theorem Jhb(h:RunOk n ts vars rs): Jxh n (ts.map (·.2)):=by
 have O:=h.n32;refine⟨om,om,by rw[List.length_map];exact h.m32,λa J=>?_,λv y=>?_⟩
 .obtain⟨t,ht,rfl⟩:=List.mem_map.1 J;obtain⟨i,hi,e⟩:=List.getElem_of_mem ht;have D:=h.at_ i hi;rw[Ql ta0 ts hi,e]at D;rw[D];refine⟨Qnz (h.asc i hi),λv y=>?_,by simp only;rw[Ju]⟩;obtain⟨u,F,rfl⟩:=List.mem_map.1 y;have:=h.lt i hi u F;omega
 obtain⟨i,hi,G⟩:=h.cov v om;refine⟨(ts.getD i ta0).2,List.mem_map_of_mem (getD_mem' ta0 ts hi),?_⟩;rw[h.at_ i hi];exact List.mem_map.2 ⟨v,G,rfl⟩
def AtG(w:World)(cs:List Value)(a:Atm): Prop:=∃ t:V3,cs=t.cells/\AtV w t a
theorem Jth: ∀(ps:List (List Value×Atm)) (w:World),(∀ p∈ps,AtG w p.1 p.2)->∃ ts:List TA,ts.map (·.2)=ps.map (·.2)/\atC ts=Jd ps/\ts.length=ps.length/\∀ q∈ts,AtV w q.1 q.2
 | [],w,_=>⟨[],rfl,rfl,rfl,λq hq=>by cases hq⟩
 | p::ps,w,h=>by
  obtain⟨qs,h1,h2,h3,h4⟩:=Jth ps w λq hq=>h q (List.mem_cons_of_mem _ hq);obtain⟨t,e,hr⟩:=h p (mC ..);refine⟨(t,p.2)::qs,by simp[h1],?_,by simp[h3],λq hq=>?_⟩;repeat grind [Jd,atC,List.mem_cons.1]
theorem Jtj{ats:List Atm}(h:GV 3 AtG w v ats): ∃(ts:List TA) (A:Option Addr) (c:Nat),ats=ts.map (·.2)/\v=.slice A ts.length c/\ts.length<=c/\ts.length<=1100000/\Rd w 3 A ts.length (atC ts)/\∀ p∈ts,AtV w p.1 p.2:=by
 obtain⟨ps,A,c,e,e1,Z,U,D,u⟩:=h;obtain⟨ts,O,J,G,F⟩:=Jth ps w λp y=>(u p y).2;grind
theorem EA: ElT Tryz.prog 26 37 3 56 (.agg #[.slice none 0 0,.int .i64 0,.slice none 0 0]):=⟨Tryz.underlying26,info_parts kr,rfl,by decide⟩
theorem zInts: Qu Tryz.prog 28=some (.slice none 0 0):=kr
theorem zRows: Qu Tryz.prog 33=some (.slice none 0 0):=kr
theorem Jsr(v1 v2 v3:Value)(A B:Option Addr)(n c m d:Nat)(z:Int)(h1:v1=.slice A n c)(h2:v2=.int .i64 z)(h3:v3=.slice B m d)(w:World): (Instr.buildSlice 26 1 #[(0,.agg #[v1,v2,v3])]).run Tryz.prog w=.ok (.slice (some ⟨w.heap.size,0,none⟩) 1 1) (w.alloc (.cells [v1,v2,v3].toArray 37)):=by
 subst h1;subst h2;subst h3;kernel_rfl
theorem Jsx(A B:Option Addr)(n c m d:Nat)(z:Int)(w:World): (Instr.build 37 #[(0,.slice A n c),(1,.agg #[.int .i64 z,.slice B m d])]).run Tryz.prog w=.ok (.agg #[.slice A n c,.int .i64 z,.slice B m d]) w:=kr
theorem Ib{z:Int}(h:v.oneCell'=true): ∀ u∈[v,.int .i64 z,.slice A n c],u.oneCell'=true:=λu y=>by
 simp only[List.mem_cons,List.not_mem_nil,or_false]at y;rcases y with rfl|rfl|rfl
 .exact h
 .rfl
 rfl
theorem Qyk(hok:MOk n ts vars rs s)(hl:ts'.length=ts.length)(he:(List.range ts.length).map (λj=>(⟨nz (rnm (vars j) s),(rnm (vars j) s).length,ms j⟩:Atm))=ts'.map (·.2))(hms:∀ j,j<ts.length->IsSet [] ((rs j).map (pmR (Xw (vars j) s))) (ms j)/\(ms j).length<=65536): RunOk (bk s 32).length ts' (λj=>rnm (vars j) s) ms:=by
 have D:=hok.run.n32;have y:∀ i,i<ts.length->∀ v∈vars i,v<32:=λi hi v J=>by have:=hok.run.lt i hi v J;omega
 refine⟨Jct s 32,by rw[hl];exact hok.run.m32,λi hi=>?_,λi hi=>Qwc (hok.run.asc i (hl ▸ hi)) (y i (hl ▸ hi)),λi hi u O=>Qwb (y i (hl ▸ hi)) O,λk F=>?_,λi hi=>(hms i (hl ▸ hi)).1.1,λi hi r U=>?_,λi hi=>(hms i (hl ▸ hi)).2⟩
 .have h1:(ts'.map (·.2))[i]?=some (ts'.getD i ta0).2:=by rw[List.getElem?_map,List.getElem?_eq_getElem hi,Option.map_some,Ql ta0 ts' hi]
  grind
 .obtain⟨h1,G⟩:=bk_mem.1 (getD_mem' 0 _ F);obtain⟨i,hi,Z⟩:=hok.run.cov _ (Jcv hok.sb G);exact⟨i,hl.symm ▸ hi,List.mem_map.2 ⟨_,inS_mem.2 ⟨Z,G⟩,Jyw (Kb s 32) F⟩⟩
 obtain⟨x,hx,rfl⟩:=List.mem_map.1 (((hms i (hl ▸ hi)).1.2 r).1 U);have:=Jjj (vars i) s (vars i).length (nR _);rw[List.take_length]at this;rw[Zj,Jhh];exact this
theorem Qfg(hok:MOk n ts vars rs s)(hms:∀ j,j<ts.length->IsSet [] ((rs j).map (pmR (Xw (vars j) s))) (ms j)/\(ms j).length<=65536){x:Row}(hx:Gy (bk s 32).length ts.length (λi=>rnm (vars i) s) ms x): x.all Xo=true:=by
 rw[List.all_eq_true];intro y J;obtain⟨k,U,rfl⟩:=List.getElem_of_mem J;have u:k<(bk s 32).length:=by rw[<-hx.1];exact U
 obtain⟨h1,G⟩:=bk_mem.1 (getD_mem' 0 _ u);obtain⟨i,hi,O⟩:=hok.run.cov _ (Jcv hok.sb G);have h3:=hx.2 i hi;obtain⟨r,D,e⟩:=List.mem_map.1 (((hms i hi).1.2 _).1 h3);have F:x.getD k V0∈pmR (rnm (vars i) s) x:=List.mem_map.2 ⟨k,List.mem_map.2 ⟨_,inS_mem.2 ⟨O,G⟩,Jyw (Kb s 32) u⟩,rfl⟩;rw[<-e]at F;obtain⟨c,Z,e2⟩:=List.mem_map.1 F;have h5:=List.all_eq_true.1 (hok.valid i hi r D) (r.getD c V0) (getD_mem' V0 r (by rw[hok.run.len i hi r D];exact Jcj Z));grind
theorem Qbt(s:Nat): (madeCells (Value.int .i64 0).cells (32*1)).toList=Jp (nz (Zv s 0)):=by
 have e:(madeCells (Value.int .i64 0).cells (32*1)).toList=List.replicate 32 (Value.int .i64 0):=Yr _ _;have u:Zv s 0=List.replicate 32 0:=by simp[Zv,List.map_const']
 rw[e,u];rfl
theorem Qbq(cs:List Nat)(i x:Nat): Jp (nz (cs.set i x))=(Jp (nz cs)).set i (.int .i64 (x:Int)):=by simp[Jp,nz,List.map_set]
theorem Jnq(h:Qq w base v cs): ∃ A c,v=.slice A cs.length c/\cs.length<=c/\∀ g,v.ownBlock=some g->base<=g/\g<w.heap.size:=Jy h
theorem Qcs(hok:MOk n ts vars rs s)(hR:Rd w 3 Aa ts.length (atC ts))(hle:ts.length<=ca)(hat:∀ p∈ts,AtV w p.1 p.2)(hcap:∀ l:List Row,Lt [] l->(∀ x∈l,∃ z:Row,z.length=n/\x=pmR (bk s 32) z/\Jjp ts.length vars rs s z)->l.length<=65536):
  Ret Tryz.prog 15 [.int .i64 (n:Int),.int .u32 (s:Int),.slice Aa ts.length ca] w λu w'=>Ext w w'/\∃(t':V3) (st:Int) (l:List Row),u=.tuple #[.agg t'.cells.toArray,.int .i64 st,.int .i64 0] /\
   Off (λk=>k<w.heap.size) w' (λx=>AtV x t' ⟨nz (bk s 32),(bk s 32).length,l⟩)/\Lt [] l/\(∀ x,x∈l↔∃ z:Row,z.length=n/\x=pmR (bk s 32) z/\Jjp ts.length vars rs s z)/\l.length<=65536:=by
 have b9:=hok.run.n32;have eu:=hok.run.m32;have b7:s<4294967296:=nM hok.sb (Nat.pow_le_pow_right (n:=2) (by decide) b9);have a3:∀ i,i<ts.length->∀ v∈vars i,v<32:=λi hi v hv=>by have:=hok.run.lt i hi v hv;omega
 refine Jz Tryz.func15 Tryz.ntmps15 rfl kr rfl ?_;refine ρ ?_;refine alc Zu ?_;intro w1 b6 c4 ek af;refine ρ ?_;refine cl (Jnh (n:=(n:Int)) (ats:=ts.map (·.2)) ⟨ts,Aa,ca,rfl,rfl,hle,om,hR.ext c4,λp hp=>(hat p hp).ext c4⟩) ?_
 rintro u w2 ⟨cw,e,rfl,he⟩;have e0:=he.2 (Jhb hok.run);subst e0;clear he;refine ρ ?_;refine sr32 (s:=s) (v:=n) b9 ?_;rw[Nat.div_eq_of_lt hok.sb];refine ρ ?_;refine mkn EI 32 om (by unfold maxLen;omega) ?_;intro w3 Na cv cb _;rw[Qbt s]at cb;refine ρ ?_;refine alc zInts ?_;intro w4 bs e8 dk J;refine ρ ?_;refine stb1 J ?_ rfl;intro w5 J f7 e7;have av:Ext w3 w5:=e7 w3 e8 dk;have bt:=c4.trans cw;have cr:Ext w w5:=(bt.trans cv).trans av;have d8:w5.ownsRow w.heap.size 3 1 (.slice Na 32 32) 32 (Jp (nz (Zv s 0))):=Jyp (Jb cb av) bt.size;have c1:Blk w5 b6 37 [.slice none 0 0,.int .i64 0,.slice none 0 0]:=(af.ext cw).ext (cv.trans av);refine ρ ?_;refine Qd (fun (v:Nat) (vv:Value)=>[(0,.int .i64 (n:Int)),(1,.int .u32 (s:Int)),(2,.slice Aa ts.length ca),(6,.pointer (some ⟨b6,0,none⟩)),(10,vv),(11,.pointer (some ⟨bs,0,none⟩)),(37,.int .i64 (v:Int))])
  (λv vv w'=>v<=32/\Ext w w'/\Blk w' b6 37 [.slice none 0 0,.int .i64 0,.slice none 0 0]/\Blk w' bs 28 [.slice Na 32 32]/\w'.ownsRow w.heap.size 3 1 (.slice Na 32 32) 32 (Jp (nz (Zv s v)))/\Qq w' w.heap.size vv (bk s v)/\∀ g,vv.ownBlock=some g->(Value.slice Na 32 32).ownBlock≠some g) (λv _=>32-v) 0 (.slice none 0 0) sB
  ⟨om,cr,c1,J,d8,Xj _ _ _ _,λg e=>(by cases e)⟩ ?_
 clear cb d8 c1 J;rintro v vv w6 ⟨hv,bm,af,J,ae,b4,a7⟩;refine ρ ?_;refine ci (λh=>?_) (λh=>?_)
 .have lv:v<32:=by have:=oT h;omega
  clear h;have df:=Jct s v;have ew:∀ {w':World},(Zv s v).length=32:=fun {_}=>Ih s v
  obtain⟨VA,vc,cn,d0,c5⟩:=Jnq b4;refine ρ ?_;refine sr32 (s:=s) (v:=v) om ?_;refine ρ ?_;refine ci (λh=>?_) (λh=>?_)
  .rw[Jxj b7]at h;subst cn;refine ρ ?_;refine ld (J.at (i:=0) rfl) ?_;refine ρ ?_;refine ix v (Rd.own ae) lv ?_;obtain⟨s1,s2,s3,s4,s5⟩:=Zl ae (q:=v) om (.int .i64 ((bk s v).length:Int));refine ρ ?_;refine sto (s1.trans (Qn (by rw[Ih];exact lv))) s2 ?_;rw[<-Qbq]at s3;have d6:∀ g,(Value.slice Na 32 32).ownBlock=some g->w.heap.size<=g:=λg eg=>by
    obtain⟨_,_,_,_,hf⟩:=Jy ae;exact(hf g eg).1
   have a1:Ext w (w6.setCell (adr Na v) (.int .i64 ((bk s v).length:Int))):=Jr bm s5 d6;have a2:=af.grown s5 (af.ne_own ae rfl);have Z:=J.grown s5 (J.ne_own ae rfl);have ad:Qq (w6.setCell (adr Na v) (.int .i64 ((bk s v).length:Int))) w.heap.size (.slice VA (bk s v).length vc) (bk s v):=Jo b4 (GrN.by s5 λg eg=>eg) (λg eg e=>a7 g eg e);generalize w6.setCell (adr Na v) (.int .i64 ((bk s v).length:Int))=w7 at *
   clear s1 s2 s4 s5;refine ρ ?_;refine bsl (bs1Int'' _) ?_;intro w8 b8 y fa en;refine ρ ?_;refine apI (Jb ad y) en om (a1.trans y).size ?_;intro e5 w9 c6 a4 eh;have ao:Ext w w9:=Jr (a1.trans y) a4 (λg eg=>(c5 g eg).1);refine ρ ?_;refine Qv (v+1) e5 sO ⟨om,ao,(a2.ext y).grown a4 ((a2.ext y).ne_own (Jb ad y) rfl),(Z.ext y).grown a4 ((Z.ext y).ne_own (Jb ad y) rfl),?_,?_,λg eg e=>?_⟩ om
   .rw[Jlv lv,if_pos h];exact Jo (Jb s3 y) (GrN.by a4 λg eg=>eg) (λg eg e=>a7 g e eg)
   .rw[Jcs,if_pos h];exact c6
   rcases eh g eg with h'|h'
   .exact a7 g h' e
   obtain⟨_,_,_,_,hf⟩:=Jy s3;have:=(hf g e).2;have:=y.size;omega
  rw[Jxj b7]at h;have hf:¬ s.testBit v=true:=by rw[h];simp
  refine ρ ?_;refine Qv (v+1) vv sO ⟨om,bm,af,J,?_,?_,a7⟩ om
  .rw[Jlv lv,if_neg hf];exact ae
  rw[Jcs,if_neg hf,List.append_nil];exact b4
 have eb:v=32:=by have:=oF h;omega
 subst eb;clear h a7;obtain⟨VA,vc,cn,d0,c5⟩:=Jnq b4;subst cn;have df:=Jct s 32;refine ρ ?_;refine Gb (fun (i:Nat) (st:Int) (vp:Value) (ms:Nat->List Row)=>[(0,.int .i64 (n:Int)),(1,.int .u32 (s:Int)),(6,.pointer (some ⟨b6,0,none⟩)),(10,.slice VA (bk s 32).length vc),(13,.func (.func 35) #[] #[.pointer (some ⟨bs,0,none⟩)]),(14,.int .i64 st),(15,vp),(56,.slice Aa ts.length ca),(57,.int .i64 (ts.length:Int)),(58,.int .i64 (i:Int))])
  (λi st vp ms w'=>i<=ts.length/\Ext w w'/\w6.heap.size<=w'.heap.size/\Blk w' b6 37 [.slice none 0 0,.int .i64 0,.slice none 0 0]/\Blk w' bs 28 [.slice Na 32 32]/\w'.ownsRow w.heap.size 3 1 (.slice Na 32 32) 32 (Jp (nz (Zv s 32)))/\Qq w' w.heap.size (.slice VA (bk s 32).length vc) (bk s 32) /\
   OwnG 37 3 AtG w' w6.heap.size vp ((List.range i).map λj=>⟨nz (rnm (vars j) s),(rnm (vars j) s).length,ms j⟩)/\∀ j,j<i->IsSet [] ((rs j).map (pmR (Xw (vars j) s))) (ms j)/\(ms j).length<=65536) (λi _ _ _=>ts.length-i) 0 0 (.slice none 0 0) (λ_=>[]) sB
  ⟨Nat.zero_le _,bm,Nat.le_refl _,af,J,ae,b4,OwnG.nil _ _,λj hj=>om⟩ ?_
 rintro i st vp ms w7 ⟨hi,a1,b5,a2,Z,d7,ad,cd,aj⟩;refine ρ ?_;refine ci (λh=>?_) (λh=>?_)
 .have li:i<ts.length:=by have:=oT h;omega
  have dl:=hR.ext a1;obtain⟨t1,t2,t3,a,hp⟩:∃ t1 t2 t3 a,ts.getD i ta0=((t1,t2,t3),a):=⟨_,_,_,_,rfl⟩;have dq:AtV w (t1,t2,t3) a:=by have:=hat _ (Jvf rfl li);rw[hp]at this;exact this
  have ea:a=⟨nz (vars i),(vars i).length,rs i⟩:=by have:=hok.run.at_ i li;rw[hp]at this;exact this
  subst ea;clear h;have h3:∀ u∈[t1,t2,t3],u.oneCell'=true:=dq.one;refine ρ ?_;refine ixq 3 i dl li ?_;refine ρ ?_;refine lds (cs:=[t1,t2,t3]) (λj u hu=>Jwn dl rfl li (by rw[hp];exact hu)) ?_;refine ρ ?_;refine alc Zu ?_;intro w8 fc y dj bg;refine ρ ?_;refine stb (cs':=[t1,t2,t3]) bg ?_ h3;intro w9 bg a4 ao;have ah:Ext w7 w9:=ao w7 y dj;refine ρ ?_;refine ldW bg ?_;refine ρ ?_;refine cl (Jtf (t:=(t1,t2,t3)) (dq.ext (a1.trans ah)) b7 (hok.run.asc i li) (a3 i li) (hok.run.len i li) (hok.run.big i li)) ?_;rintro u aq ⟨a5,⟨p1,p2,p3⟩,rfl,m,a6,da,d9,ai⟩;have U:=ai (hok.srtP i li);have cm:=a6.here;obtain⟨⟨PA,pc,e3,d5,ec,f5⟩,e1,bp⟩:=id cm;simp only at e3 e1;obtain⟨bl,PG,au,_,dz,_⟩:=id bp;simp only at dz;have cu:=a1.trans ah;have e9:=cu.trans a5;refine ρ ?_;refine alc Zu ?_;intro e4 fb b3 di ak;refine ρ ?_;refine stb (cs':=[p1,p2,p3]) ak ?_ cm.one;intro am ak dd b2;have D:Ext aq am:=b2 aq b3 di
  refine ρ ?_;subst e3;subst e1;subst dz;refine lds (cs:=[.int .i64 ((inS (vars i) s).length:Int),.slice PG bl.length au]) (ak.sub2 (i:=1) rfl rfl) ?_;refine ρ ?_;have bh:=cm.ext D;refine cl (Jqd bh.rel) ?_;rintro u bj ⟨rfl,G⟩;obtain⟨c3,d3⟩:∃ c3:Int,c3=IntKind.i64.wrap (st+(m.length:Int)):=⟨_,rfl⟩;have ck:=ak.ext G;repeat first|refine ω4 ?_|refine ω5 ?_|refine χ1 ?_|refine κ1 ?_|refine κ2 ?_|refine χ2 ?_|refine κ3 ?_|refine ω6 ?_|refine ω7 ?_|refine ω9 ?_|refine κ4 ?_|refine κ7 ?_|refine κ8 ?_|refine χ3 ?_|refine χ4 ?_|refine κ5 ?_|refine κ6 ?_|refine χ5 ?_|refine χ6 ?_|refine χ7 ?_|refine ω8 ?_
  rw[<-d3];refine ρ ?_;refine ldW ck ?_;refine ρ ?_;have O:Ext w7 bj:=((ah.trans a5).trans D).trans G;have ay:=a1.trans O;refine clv (Qcw (Na:=Na) (nums:=Zv s 32) (bh.ext G) ?_ ?_ (λv hv=>?_) ?_) ?_
  .rw[Ih];exact Z.ext O
  .rw[Ih];exact Rd.own (Jb d7 O)
  .rw[Ih];exact a3 i li v (inS_mem.1 hv).1
  .have:=List.length_filter_le (λv=>s.testBit v) (vars i);have h5:=Jjm (hok.run.asc i li) (a3 i li);unfold inS;omega
  rintro u ap ⟨ax,v1,rfl,c7⟩;have d1:=c7.here;obtain⟨QA,qc,dw,f4,f3,f2⟩:=d1;refine ρ ?_;refine bsl (Jsr v1 _ _ QA PG _ qc _ au _ dw rfl rfl) ?_;intro c2 fd aw ey dn;have ep:(inS (vars i) s).map (λv=>(Zv s 32).getD v 0)=rnm (vars i) s:=by
   unfold rnm;refine List.map_congr_left λv hv=>?_;obtain⟨h5,h6⟩:=inS_mem.1 hv;exact Qbs (a3 i li v h5) h6
  rw[ep]at c7;have F:=(O.trans ax).trans aw;have bc:=cd.ext F;obtain⟨_,_,_,_,cc⟩:=cd.form;have c9:∀ k,Vp w6.heap.size vp k->k<w7.heap.size:=λk hk=>by
   rcases hk with hk|hk
   .exact nM hk b5
   exact(cc k hk).2
  have hΦ:Off (Vp w6.heap.size vp) c2 (λu=>AtG u [v1,.int .i64 ((inS (vars i) s).length:Int),.slice PG bl.length au] ⟨nz (rnm (vars i) s),(rnm (vars i) s).length,m⟩):=by
   have h5:Off (λk=>k<w7.heap.size) c2 (λu=>IntsV u v1 (nz (rnm (vars i) s))):=(c7.mono λk _ hk=>nM hk O.size).ext aw;have h6:Off (λk=>k<w7.heap.size) c2 (λu=>AtV u (.slice PA (nz (inS (vars i) s)).length pc,.int .i64 ((inS (vars i) s).length:Int),.slice PG bl.length au) ⟨nz (inS (vars i) s),(inS (vars i) s).length,m⟩) :=
    (a6.mono λk _ hk=>nM hk ah.size).ext (((D.trans G).trans ax).trans aw)
   refine((h5.and h6).imp λu h=>⟨(v1,.int .i64 ((inS (vars i) s).length:Int),.slice PG bl.length au),rfl,h.1,?_,h.2.2.2⟩).mono λk _ hk=>c9 k hk;simp only;rw[Jhh]
  refine ρ ?_;refine apG EA (Φ:=AtG) bc dn rfl (Ib (by rw[dw];rfl)) hΦ (by simp;omega) om (nL b5 F.size) ?_;intro cp bi dm a9 et;have cx:Ext w bi:=Jr (a1.trans F) a9 (λg eg=>nL bm.size (cc g eg).1);have bq:∀ {g t:Nat} {cs:List Value},Blk w7 g t cs->Nat.beq 37 t=false->Blk bi g t cs:=λhB e=>by
   obtain⟨ps,_,ho,_⟩:=bc;exact(hB.ext F).grown a9 ((hB.ext F).ne_own ho e)
  have ce:Blk bi b6 37 [.slice none 0 0,.int .i64 0,.slice none 0 0]:=by
   exact(a2.ext F).grown a9 λe=>by have:=(cc b6 e.symm).1;have:=af.lt;omega
  have bv:∀ {m':Nat} {v:Value} {xs:List Value},w7.ownsRow w.heap.size 3 1 v m' xs->bi.ownsRow w.heap.size 3 1 v m' xs:=λho=>by
   obtain⟨ps,_,ef,_⟩:=bc;exact Zq (Jb ho F) ef a9 rfl
  refine ρ ?_;refine Yk (i+1) c3 cp (upd ms i m) sO ⟨om,cx,Nat.le_trans b5 (nL F.size a9.size),ce,bq Z rfl,bv d7,bv ad,?_,λj hj=>?_⟩ om
  .rw[List.range_succ,List.map_append,List.map_singleton,Qw];have e:(List.range i).map (λj=>(⟨nz (rnm (vars j) s),(rnm (vars j) s).length,upd ms i m j⟩:Atm))=(List.range i).map (λj=>⟨nz (rnm (vars j) s),(rnm (vars j) s).length,ms j⟩):=by
    refine List.map_congr_left λj hj=>?_;have:=List.mem_range.1 hj;rw[Jm _ _ om]
   rw[e];exact dm
  by_cases e:j=i
  .subst e;rw[Qw];exact⟨U,da⟩
  rw[Jm _ _ e];exact aj j om
 have ej:i=ts.length:=by have:=oF h;omega
 subst ej;clear h;refine ρ ?_;refine alc zRows ?_;intro w8 co y dh aa;have em:=cd.ext y;obtain⟨e6,PA,pc,dx,eo,d5,ec,ed,ee⟩:=Jtj (em.gv (by simp;omega));have c8:e6.length=ts.length:=by
  have:=congrArg List.length dx;simpa using this.symm
 have bz:=Qyk hok c8 dx aj;subst eo;have cq:=a1.trans y;have bb:=Qct (m:=ts.length) (ms:=ms) hok.sb b9 hok.run.lt hok.run.len (λi hi x=>(aj i hi).1.2 x);refine ρ ?_;refine cl (Qhb (bx':=λk=>k=co) (Y:=YM co) bz ed d5 ee (Jhb bz) (λk hk=>by subst hk;exact aa.lt) (Qcv aa.lt) (λw' cy=>⟨nM aa.lt cy.size,.slice none 0 0,aa.ext cy,OwnG.nil _ _⟩) ?_) ?_
 .intro l h1 h2;refine hcap l h1 λx hx=>(bb x).1 ?_;have:=h2 x hx;rw[c8]at this;exact this
 rintro u w9 ⟨a4,f0,base,l,rfl,f8,ex,⟨f9,ez,cj,hO⟩,br,a8⟩;rw[c8]at a8;have cz:w.heap.size<=co:=nL a1.size dh;have ao:Ext w w9:=a4.old cq λk hk=>by subst hk;exact cz
 have bd:=Ja (a2.ext y) a4 (λe=>by have:=a2.lt;omega);have c6:Qq w9 w.heap.size (.slice VA (bk s 32).length vc) (bk s 32):=Jo (Jb ad y) a4 (λg eg e=>by subst e;exact aa.ne_own (Jb ad y) rfl eg.symm);have db:l.length<=65536:=by
  refine hcap l br λx hx=>(bb x).1 ((a8 x).1 hx)
 obtain⟨LA,lc,dt,f6,hlf⟩:=hO.form;subst dt;have bn:=Qkn (hO.gv om);refine ρ ?_;refine ld (cj.at (i:=0) rfl) ?_;refine ρ ?_;refine cl (Jhl (ar:=(bk s 32).length) bn) ?_;rintro u aq ⟨a5,rv,e,rfl,⟨z,RB,rm,rd,rfl⟩,de,bw⟩;have ei:∀ r∈l,r.length=(bk s 32).length/\r.all Xo=true:=λr hr=>⟨((a8 r).1 hr).1,Qfg hok aj ((a8 r).1 hr)⟩;have e0:=de df ei db;subst e0;obtain⟨_,_,m,a6,da,d9,ai⟩:=bw rfl;have U:=ai (.inr (Ys br));have er:m=l:=Uz U.1 br U.2;subst er;clear ai U de bw d9;refine ρ ?_;refine alc Yu ?_;intro e4 es b3 dg bf;refine ρ ?_;refine stb (cs':=[.int .i64 z,.slice RB rm rd]) bf ?_ Vy;intro am bf dd b2;have D:Ext aq am:=b2 aq b3 dg;refine ρ ?_;have ac:=a5.trans D;have ch:=bd.ext ac;have bo:=(a6.here).ext D;refine drN (λk=>k=b6) 12 [(0,0),(0,1),(0,2),(0,3),(0,4),(0,5),(0,6),(1,7),(0,8),(1,9),(0,10),(0,11)] kr ?_;have an:Ext am am.drew:=(Ext.refl am).drew
 have be:=bf.ext an;have c0:=ch.ext an;have bq:¬ (λk=>k=b6) es:=λe=>by
  have h1:=bd.lt;have h2:=a5.size;simp only at e;omega
 refine ρn ?_;refine Yw (cs:=[.int .i64 z,.slice RB rm rd]) (λw' hg j u hu=>(Ja be hg bq).at hu) ?_;refine ρn ?_;refine nbld (Jsx _ _ _ _ _ _ _) ?_;refine ρn ?_;refine Yw (cs:=[.int .i64 z,.slice RB rm rd]) (λw' hg j u hu=>(Ja be hg bq).at hu) ?_;refine ρn ?_;refine nop ?_;refine cl (Jqd (bo.ext an)) ?_;rintro u bj ⟨rfl,G⟩;refine ρ ?_;refine Qg (GrN.ext G) ?_;refine ρn ?_;refine nop ?_;refine stb (cs':=[.slice VA (bk s 32).length vc,.int .i64 z,.slice RB rm rd]) (c0.ext G) ?_ (Ib rfl);intro ap cg ba ax;refine ω5 ?_;refine Qg (GrN.by ba λk e=>by injection e with e;exact e.symm) ?_;refine ρn ?_;refine ρ ?_;have ay:Ext w bj:=((ao.trans ac).trans an).trans G;refine Jpq cg ⟨Jbl ay ba ek,(.slice VA (bk s 32).length vc,.int .i64 z,.slice RB rm rd),_,m,rfl,?_,br,λx=>(a8 x).trans (bb x),db⟩;have dc:GrN (λk=>k=b6) bj ap:=GrN.by ba λk e=>by injection e with e;exact e.symm
 have bu:=Jb c6 ((ac.trans an).trans G);have d2:Qq ap w.heap.size (.slice VA (bk s 32).length vc) (bk s 32):=Jo bu dc λg eg e=>by subst e;exact(c0.ext G).ne_own bu rfl eg.symm
 have h5:Off (λk=>k<w.heap.size) ap (λu=>IntsV u (.slice VA (bk s 32).length vc) (nz (bk s 32))):=by
  refine(Jqk d2 λg eg hk=>by have:=(c5 g eg).1;omega).imp λu h=>⟨VA,vc,by rw[Ju],by rw[Ju];exact d0,by rw[Ju];omega,by rw[Ju];exact Rd.own h⟩
 have h6:Off (λk=>k<w.heap.size) ap (λu=>RelV u (.agg #[.int .i64 z,.slice RB rm rd]) (bk s 32).length m):=by
  have h7:=a6.ext ((D.trans an).trans G);have h8:=h7.gr (dc.mono λk _ hk=>by subst hk;exact bd.lt);exact h8.mono λk _ hk=>nM hk ao.size
 refine(h5.and h6).imp λu h=>?_;obtain⟨h7,rv,du,h8⟩:=h;have e2:(Value.int .i64 z)=.int .i64 ((bk s 32).length:Int)/\Value.slice RB rm rd=rv:=by
  simp only[Value.agg.injEq,Array.mk.injEq,List.cons.injEq,and_true]at du;exact du
 exact⟨h7,e2.1,by simp only;rw[e2.2];exact h8⟩
end Go.Proofs.YtebiphhfkdbpfaaGreat
namespace Go.Wk
open Go.RowKit
variable {p:Addr}{z:Int}{kd:IntKind}{cs cs':List Value}{b e g m t:Nat}{i x y:Operand}{k k2:TK}{v:Value}
section
variable {N:Nat->Prop} {P:Program} {n:Nat} {al:AL} {w:World} {Q:Exit->Act->World->Prop} {ops:Array Oper} {rest:List Oper} {drest:List (Nat×Oper)}
variable {d ty:Nat} {pos:String} {aft:Array Edge} {tt:TT}
theorem Jxx(hT:TOk P tt)(ht:tk tt t=some k)(hk:k.desc=.array m e)(w:World): (isAgg t).run P w=.ok true w/\Xh P t=some k.size/\P.underlying t=some (.array m e)/\Xh P e=some k.esz:=by
 have:=hT.at ht;unfold Vn at this;rw[hk]at this;exact⟨by simp[isAgg,run_underlying this.1],this.2.2,this.1,this.2.1⟩
theorem Qkd(hT:TOk P tt)(ht:tk tt t=some k)(hk:k.desc=.array m e)(hl:k.size=cs.length)(hc:∀ j u,cs[j]?=some u->w.cell? (p.add j)=some u): (loadVar t p).run P w=.ok (.agg cs.toArray) w:=by
 have y:=run_loadCells_list (P:=P) w p cs hc;rw[<-hl]at y;simp[loadVar,(Jxx hT ht hk w).1,Vj w (Jxx hT ht hk w).2.1,y]
theorem lda[h:Tab P tt](hc:∀ j u,cs[j]?=some u->w.cell? (p.add j)=some u)(hl:k.size=cs.length)(kk:WL P n ops Q rest ((d,.agg cs.toArray)::al) w)(ht:tk tt t=some k:=by rfl)(hk:k.desc=.array m e:=by rfl)(hx:ev al x=some (.pointer (some p)):=by rfl)(hd:Nat.blt d n=true:=by rfl): WL P n ops Q (⟨some d,.load t x,ty,pos,aft,none⟩::rest) al w :=
 wop hd (λa y=>by simp[execOp,y.ev hx,Instr.loadAt,Instr.sureAddr,Qkd (w:=w) h.ok ht hk hl hc]) kk
theorem sta[h:Tab P tt](hb:Blk w b t cs)(kk:∀ w1,Blk w1 b t cs'->w.grownBy w1 (some b)->(∀ a,Ext a w->a.heap.size<=b->Ext a w1)->WL P n ops Q rest al w1)(h1:∀ u∈cs',u.oneCell'=true)(hl:cs.length=cs'.length)(hs:k.size=cs'.length)(ht:tk tt t=some k:=by rfl)(hk:k.desc=.array m e:=by rfl)(hx:ev al x=some (.pointer (some ⟨b,0,none⟩)):=by rfl)(hy:ev al y=some (.agg cs'.toArray):=by rfl):
  WL P n ops Q (⟨none,.store t x y,ty,pos,aft,none⟩::rest) al w:=by
 have J:=Jjd w b cs'.toArray;refine Kn (λa G=>?_) (kk (w.setRow b cs'.toArray) (setRow_heap w b _ _ _ _ hb) J (λa hx G=>Jr hx J (λk hk=>by grind)));have F:=Vj w (Jxx h.ok ht hk w).2.1;have D:=run_storeCells_from (P:=P) b t cs' 0 cs.toArray w hb (by simpa using hl.symm) h1;simp only[List.take_zero,List.nil_append]at D;simp[execOp,G.ev hx,G.ev hy,Instr.storeAt,Instr.sureAddr,storeVar,Value.cells,F,hs,D]
theorem idx[h:Tab P tt](j:Nat)(hlt:j<m)(hv:cs[j]?=some v)(kk:WL P n ops Q rest ((d,v)::al) w)(ht:tk tt t=some k:=by rfl)(hk:k.desc=.array m e:=by rfl)(h1:k.esz=1:=by rfl)(he:tk tt e=some k2:=by rfl)(hp:Zw k2.desc=true:=by rfl)(hx:ev al x=some (.agg cs.toArray):=by rfl)(hi:ev al i=some (.int kd z):=by rfl)(hj:z=(j:Int):=by first|rfl|omega)(hd:Nat.blt d n=true:=by rfl):
  WL P n ops Q (⟨some d,.index t x i,ty,pos,aft,none⟩::rest) al w :=
 wop hd (λa y=>by
  subst hj;have u:=Jxx h.ok ht hk w;have D:=Vj w (h1 ▸ u.2.2.2);have F:=(Jxw h.ok he hp w).1;simp[execOp,y.ev hx,y.ev hi,Instr.index,asIntOf,run_underlying u.2.2.1,hlt,D,part,F,hv]) kk
theorem ixs[h:Tab P tt](j:Nat)(hlt:j<m)(kk:WL P n ops Q rest ((d,.pointer (some (p.add (j*k.esz))))::al) w)(ht:tk tt t=some k:=by rfl)(hk:k.desc=.array m e:=by rfl)(hx:ev al x=some (.pointer (some p)):=by rfl)(hi:ev al i=some (.int kd z):=by rfl)(hj:z=(j:Int):=by first|rfl|omega)(hd:Nat.blt d n=true:=by rfl): WL P n ops Q (⟨some d,.indexAddr t x i,ty,pos,aft,none⟩::rest) al w :=
 wop hd (λa u=>Jgw h.ok j ht hk hlt u hx hi hj (some d) w) kk
theorem adr1(b v:Nat): (⟨b,0,none⟩:Addr).add (v*1)=⟨b,v,none⟩:=by rw[Za,Nat.mul_one,Nat.zero_add]
theorem ixb[h:Tab P tt](j:Nat)(hlt:j<m)(kk:WL P n ops Q rest ((d,.pointer (some ⟨b,j,none⟩))::al) w)(ht:tk tt t=some k:=by rfl)(hk:k.desc=.array m e:=by rfl)(h1:k.esz=1:=by rfl)(hx:ev al x=some (.pointer (some ⟨b,0,none⟩)):=by rfl)(hi:ev al i=some (.int kd z):=by rfl)(hj:z=(j:Int):=by first|rfl|omega)(hd:Nat.blt d n=true:=by rfl): WL P n ops Q (⟨some d,.indexAddr t x i,ty,pos,aft,none⟩::rest) al w:=by
 rw[<-adr1 b j,<-h1]at kk;exact ixs j hlt kk ht hk hx hi hj hd
theorem Blk.atc{w:World}{t:TypeId}(h:Blk w g t cs){i:Nat}(hv:cs[i]?=some v): w.cell? ⟨g,i,none⟩=some v:=by rw[h.cell];exact hv
end
end Go.Wk
namespace Go.Wk
open Go.RowKit
variable {listed:Array Bool}{l:List Oper}{fuel fuel' i:Nat}{o oi oj:Oper}
section
variable {P:Program} {n:Nat} {al al':AL} {w:World} {Q:Exit->Act->World->Prop} {ops:Array Oper} {T:Nat->Bool}
def Ut(P:Program)(ops:Array Oper)(Q:Exit->Act->World->Prop)(T:Nat->Bool)(i:Nat)(w0:World)(fuel:Nat)(listed:Array Bool): Exit->Act->World->Prop
 | .normal,a,w=>(T i=false->Ext w0 w)/\(Closed ops listed->Zd P ops Q T fuel listed a w)
 | _,_,_=>False
theorem Qe{w0:World}(hx:T i=false->Ext w0 w)(h:WH P n ops Q T fuel listed al w): QX n (Ut P ops Q T i w0 fuel listed) .normal al w:=λa y=>⟨hx,λu=>h u a y⟩
theorem Jww(ho:ops[i]?=some o)(hc:Closed ops listed)(h:WL P n ops (Ut P ops Q T i w fuel listed) [o] al w): ∀ a,Fr n al a->wpOp P ops (QF Q) i (λa' w'=>(T i=false->Ext w w')/\Zd P ops Q T fuel listed a' w') a w:=λa F=>by
 have u:=h a F;unfold wpList at u;unfold wpOp;simp only[ho];have y:¬ LetsOut (Ut P ops Q T i w fuel listed):=by rintro⟨a,w,h⟩;exact h
 split
 .rename_i hw;simp only[hw,if_true]at u;rcases u with u|⟨_,u⟩
  .left
   refine Oper.wp_mono (K:=wpList P ops (Ut P ops Q T i w fuel listed) []) (λa' w' D=>⟨D.1,D.2 hc⟩) ?_;unfold Oper.wp at u ⊢;grind [Yx,Ut]
  exact absurd u y
 rename_i hw;simp only[hw]at u;exact⟨u.1,u.2 hc⟩
theorem Jqt(i j:Nat)(hr:Region.ready .any l.toArray listed=[i,j])(hf:fuel=fuel'+1)(hi:nth l i=some oi)(hj:nth l j=some oj)(h1:WL P n l.toArray (Ut P l.toArray Q T i w fuel' (listed.setIfInBounds i true)) [oi] al w)(h2:WL P n l.toArray (Ut P l.toArray Q T j w fuel' (listed.setIfInBounds j true)) [oj] al w): WH P n l.toArray Q T fuel listed al w:=λD a F=>by
 subst hf;have J:l.toArray[i]?=some oi:=by rw[<-hi,Xq];simp
 have G:l.toArray[j]?=some oj:=by rw[<-hj,Xq];simp
 refine⟨λh0=>(by rw[hr]at h0;cases h0),λk y=>?_⟩;have u:=y;rw[hr]at y;simp only[List.mem_cons,List.not_mem_nil,or_false]at y;rcases y with rfl|rfl
 .exact Jww J (D.step u) h1 a F
 exact Jww G (D.step u) h2 a F
theorem Zn(i:Nat)(hr:Region.ready .any l.toArray listed=[i])(hf:fuel=fuel'+1)(hi:nth l i=some oi)(h1:WL P n l.toArray (Ut P l.toArray Q T i w fuel' (listed.setIfInBounds i true)) [oi] al w): WH P n l.toArray Q T fuel listed al w:=λD a F=>by
 subst hf;have G:l.toArray[i]?=some oi:=by rw[<-hi,Xq];simp
 refine⟨λh0=>(by rw[hr]at h0;cases h0),λk u=>?_⟩;have y:=u;rw[hr]at u;simp only[List.mem_cons,List.not_mem_nil,or_false]at u;subst u;exact Jww G (D.step y) h1 a F
end
section
variable {N:Nat->Prop} {P:Program} {n:Nat} {al al':AL} {w:World} {Q:Exit->Act->World->Prop} {ops:Array Oper}
def WM(N:Nat->Prop)(P:Program)(n:Nat)(ops:Array Oper)(Q:Exit->Act->World->Prop)(fuel:Nat)(listed:Array Bool)(al:AL)(w:World): Prop:=Closed ops listed->∀ a,Fr n al a->Up N P ops Q noT fuel listed a w
theorem WM.sub{fuel:Nat}{listed:Array Bool}(hs:Sub al' al)(h:WM N P n ops Q fuel listed al' w): WM N P n ops Q fuel listed al w:=λu a y=>h u a (y.sub hs)
end
end Go.Wk
namespace Go.Wk
open Go.RowKit
variable {d n ty v:Nat}
theorem sl64{P:Program}{al:AL}{w:World}{Q:Exit->Act->World->Prop}{ops:Array Oper}{rest:List Oper}{pos:String}{aft:Array Edge}{y:Operand}{t yt:TypeId}(hv:v<64)(kk:WL P n ops Q rest ((d,.int .u64 ((2^v:Nat):Int))::al) w)(hy:ev al y=some (.int .i64 (v:Int)):=by rfl)(hd:Nat.blt d n=true:=by rfl):
  WL P n ops Q (⟨some d,.binOp .shl t (.const (.int .u64 1)) y yt,ty,pos,aft,none⟩::rest) al w:=by
 have e:IntKind.u64.wrap (1*2^(min ((v:Nat):Int).toNat IntKind.u64.bits))=((2^v:Nat):Int):=by
  have h:2^v<18446744073709551616:=nM (Nat.pow_lt_pow_right (by decide:1<2) hv) (by decide);rw[Int.toNat_natCast,Nat.min_eq_left (by show v<=64;omega),Int.one_mul];have:((2:Int)^v)=((2^v:Nat):Int):=by simp
  rw[this,IntKind.wrap_u64];grind
 rw[<-e]at kk;exact wop hd (λa u=>Jgr (x:=.const (.int .u64 1)) rfl hy om u (some d) w) kk
end Go.Wk
namespace Go.Proofs.YtebiphhfkdbpfaaGreat
open Go.RowKit Pl Go.Wk
attribute [local irreducible] WC WL QX WD WDB WP WN WG
variable {es:List Nat}{c e i n:Nat}{A:Option Addr}{w:World}
def Uc(es:List Nat): List Value:=es.map fun (e:Nat)=>Value.int .u32 (e:Int)
theorem Jdc(h:i<es.length): (Uc es)[i]?=some (.int .u32 (es.getD i 0:Int)):=by
 simp[Uc,List.getD,List.getElem?_eq_getElem h]
structure GrV(w:World)(A:Option Addr)(c n:Nat)(es:List Nat): Prop where
 rd:Rd w 1 A es.length (Uc es)
 cap:es.length<=c
 n32:n<=32
 few:es.length<=64
 lt:∀ e∈es,e<2^n
abbrev grC(A:Option Addr)(c n:Nat)(es:List Nat): List Value:=[.int .i64 (n:Int),.slice A es.length c]
theorem GrV.ext{w w':World}{A:Option Addr}{c n:Nat}{es:List Nat}(h:GrV w A c n es)(hx:Ext w w'): GrV w' A c n es:=⟨h.rd.ext hx,h.cap,h.n32,h.few,h.lt⟩
theorem Ga(h:n<=32): 2^n<=4294967296:=Nat.pow_le_pow_right (n:=2) (by decide) h
theorem GrV.lt32(h:GrV w A c n es)(he:e∈es): e<4294967296:=nM (h.lt e he) (Ga h.n32)
theorem Qgd(hn:n<=32)(w:World): Ret Tryz.prog 79 [.int .i64 (n:Int)] w λu w'=>u=.int .u32 ((2^n-1:Nat):Int)/\w'=w:=by
 have D:=Ga hn;have y:0<2^n:=Nat.two_pow_pos n;refine Jz Tryz.func79 Tryz.ntmps79 rfl kr rfl ?_;refine ρ ?_;refine sl64 (v:=n) om ?_;refine ρ ?_;refine Jq ⟨?_,rfl⟩;generalize 2^n=p at *
 congr 1
 rw[IntKind.wrap_u64,IntKind.wrap_u32];omega
theorem Jtp(h:e<2^n)(hn:n<=32): Jxk e (2^n-1)=0:=by
 have y:=Ga hn;have u:0<2^n:=Nat.two_pow_pos n;apply Nat.eq_of_testBit_eq
 grind [Jtq,Nat.testBit_two_pow_sub_one,Nat.testBit_lt_two_pow,Nat.lt_of_lt_of_le,Nat.pow_le_pow_right]
theorem Qgc(h:GrV w A c n es): Ret Tryz.prog 50 [.agg (grC A c n es).toArray] w λu w'=>u=.int .i64 0/\Ext w w':=by
 have hn:=h.n32;have hf:=h.few;refine Jz Tryz.func50 Tryz.ntmps50 rfl kr rfl ?_;refine ρ ?_;refine bx (cs:=grC A c n es) ?_;intro w1 b D hb F;refine ρ ?_;refine ld (F.at (i:=0) rfl) ?_;refine ρ ?_;refine ld (F.at (i:=0) rfl) ?_;refine ρ ?_;refine cf ?_ ?_
 .grind
 refine ρ ?_;refine ld (F.at (i:=1) rfl) ?_;refine ρ ?_;refine cf ?_ ?_
 .grind
 refine ρ ?_;refine ld (F.at (i:=1) rfl) ?_;refine ρ ?_;refine Jl (fun (i:Nat)=>[(1,.pointer (some ⟨b,0,none⟩)),(18,.slice A es.length c),(19,.int .i64 (es.length:Int)),(20,.int .i64 (i:Int))])
  (λi w'=>i<=es.length/\Ext w1 w') (λi=>es.length-i) 0 sB ⟨Nat.zero_le _,Ext.refl _⟩ ?_
 rintro i w2 ⟨hi,y⟩;have J:=F.ext y;have O:=h.ext (D.trans y);refine ρ ?_;refine ci (λh=>?_) (λh=>?_)
 .have G:i<es.length:=by have:=oT h;omega
  clear h;have U:=getD_mem' 0 es G;refine ρ ?_;refine ix i O.rd G ?_;refine ρ ?_;refine ld (O.rd.cell (Jdc G)) ?_;refine ρ ?_;refine ld (J.at (i:=0) rfl) ?_;refine ρ ?_;refine cl (Qgd hn w2) ?_;rintro u w3 ⟨rfl,rfl⟩;have hp:=Ga hn;have Z:0<2^n:=Nat.two_pow_pos n;refine ρ ?_;refine cf ?_ ?_
  .rw[Jcw (O.lt32 U) om,Jtp (h.lt _ U) hn];rfl
  refine ρ ?_;exact Jg (i+1) sO ⟨om,y⟩ om
 refine ρ ?_;exact Jq ⟨rfl,D.trans y⟩
end Go.Proofs.YtebiphhfkdbpfaaGreat
namespace Go.Proofs.YtebiphhfkdbpfaaGreat
open Pl Go.Wk
variable {i j n:Nat}{f:Nat->List Value}
structure PermOk(n f:Nat)(perm:List Nat): Prop where
 fn:f<=n
 len:perm.length=n-f
 rng:∀ v∈perm,f<=v/\v<n
 nd:perm.Nodup
def Ya(n:Nat)(f:Nat->List Value): List Value:=(List.range n).flatMap f
theorem Jpf(n:Nat)(f:Nat->List Value): Ya (n+1) f=Ya n f++f n:=by simp[Ya,List.range_succ,List.flatMap_append]
theorem Jpg{sz:Nat}(h:∀ i,i<n->(f i).length=sz): (Ya n f).length=n*sz:=by
 induction n with
 | zero=>simp[Ya]
 | succ n ih=>rw[Jpf,List.length_append,ih (λi hi=>h i om),h n om,Nat.succ_mul]
theorem Qgn{sz:Nat}(h:∀ i,i<n->(f i).length=sz)(hi:i<n)(hj:j<sz): (Ya n f)[i*sz+j]?=(f i)[j]?:=by
 induction n with
 | zero=>omega
 | succ n ih=>
  have u:=Jpg (n:=n) (λi hi=>h i om);rw[Jpf];grind
open Go.RowKit Pl Go.Wk
attribute [local irreducible] WC WL QX WD WDB WP WN WG
theorem Qcz{zs:List Value}(h:0<zs.length)(n:Nat): (madeCells zs.toArray (n*zs.length)).toList=Ya n λ_=>zs:=by
 apply List.ext_getElem?
 intro k;by_cases hk:k<n*zs.length
 .have D:k / zs.length<n:=Nat.div_lt_of_lt_mul (by grind);have u:=Nat.mod_lt k h;have y:=Qgn (n:=n) (sz:=zs.length) (f:=λ_=>zs) (λ_ _=>rfl) D u;rw[Nat.div_add_mod' k zs.length]at y;rw[y];simp only[madeCells,Array.getElem?_toList,Array.getElem?_map,Array.getElem?_range,hk,if_true,Option.map_some];simp[u]
 have F:=Jpg (n:=n) (sz:=zs.length) (f:=λ_=>zs) (λ_ _=>rfl);rw[List.getElem?_eq_none (by simp[madeCells];omega),List.getElem?_eq_none om]
open Go.RowKit Pl Go.Wk
variable {a b l os:List UInt32}{c i k m n x y:Nat}
theorem Jff(c:UInt32)(h:k<l.length): val (l.set k c)+4294967296^k*(l.getD k 0).toNat=val l+4294967296^k*c.toNat:=by
 induction l generalizing k with
 | nil=>simp at h
 | cons x l ih=>
  cases k with
  | zero=>simp[val];omega
  | succ k=>
   have:=ih (k:=k) (by simpa using h);simp only[List.set_cons_succ,val,List.getD_cons_succ,Nat.pow_succ];grind
structure MulO(a b:List UInt32)(i:Nat)(os:List UInt32): Prop where
 len:os.length=a.length+b.length
 val:val os=val (a.take i)*val b
 zero:∀ k,i+b.length<=k->os.getD k 0=0
structure MulI(a b:List UInt32)(i j c:Nat)(os:List UInt32): Prop where
 len:os.length=a.length+b.length
 small:c<4294967296
 val:val os+4294967296^(i+j)*c=Pl.val (a.take i)*Pl.val b+4294967296^i*(a.getD i 0).toNat*Pl.val (b.take j)
 zero:∀ k,i+b.length<=k->os.getD k 0=0
theorem Qgj(c:UInt32)(h:k≠m): (l.set k c).getD m 0=l.getD m 0:=by grind
theorem Jys(hx:x<4294967296)(hy:y<4294967296): x*y<=18446744065119617025:=by
 have:=Nat.mul_le_mul (show x<=4294967295 by omega) (show y<=4294967295 by omega);omega
theorem MulO.first: MulO a b 0 (List.replicate (a.length+b.length) 0):=by
 refine⟨by simp,?_,λk _=>?_⟩
 .have:∀ n,Pl.val (List.replicate n (0:UInt32))=0:=λn=>by
   induction n with
   | zero=>rfl
   | succ n ih=>rw[List.replicate_succ];simp[Pl.val,ih]
  rw[this];simp[Pl.val]
 repeat grind
theorem MulO.start(h:MulO a b i os): MulI a b i 0 0 os :=
 ⟨h.len,om,by rw[h.val];simp[Pl.val],h.zero⟩
theorem MulI.step{j s:Nat}(h:MulI a b i j c os)(hi:i<a.length)(hj:j<b.length)(hs:s=c+((a.getD i 0).toNat*(b.getD j 0).toNat+(os.getD (i+j) 0).toNat)):
  MulI a b i (j+1) (s / 4294967296) (os.set (i+j) (UInt32.ofNat s))/\s<18446744073709551616:=by
 obtain⟨h1,h2,h3,h4⟩:=h;have G:(a.getD i 0).toNat<4294967296:=(a.getD i 0).toNat_lt;have F:(b.getD j 0).toNat<4294967296:=(b.getD j 0).toNat_lt;have O:(os.getD (i+j) 0).toNat<4294967296:=(os.getD (i+j) 0).toNat_lt;have hm:=Jys G F;have u:s<18446744073709551616:=om
 refine⟨⟨by grind,om,?_,λk hk=>by grind⟩,u⟩;have e:=Jff (UInt32.ofNat s) (show i+j<os.length by omega);rw[UInt32.toNat_ofNat']at e;rw[Jjs];generalize hX:(a.getD i 0).toNat=X at *
 generalize hY:(b.getD j 0).toNat=Y at *
 generalize hZ:(os.getD (i+j) 0).toNat=Z at *
 generalize Pl.val (os.set (i+j) (UInt32.ofNat s))=V' at *
 generalize Pl.val os=V at *
 generalize Pl.val (b.take j)=W at *
 generalize Pl.val (a.take i)*Pl.val b=U at *
 have D:4294967296^(i+(j+1))*(s / 4294967296)=4294967296^(i+j)*(4294967296*(s / 4294967296)):=by grind
 have y:4294967296^i*X*(W+4294967296^j*Y)=4294967296^i*X*W+4294967296^(i+j)*(X*Y):=by grind
 have J:4294967296^(i+j)*(s % 2^32)+4294967296^(i+j)*(4294967296*(s / 4294967296))=4294967296^(i+j)*c+(4294967296^(i+j)*(X*Y)+4294967296^(i+j)*Z):=by
  rw[<-Nat.mul_add,<-Nat.mul_add,<-Nat.mul_add];congr 1
  omega
 rw[D,y];omega
theorem MulI.last(h:MulI a b i b.length c os)(hi:i<a.length): MulO a b (i+1) (os.set (i+b.length) (UInt32.ofNat c)):=by
 obtain⟨G,F,y,u⟩:=h;refine⟨by grind,?_,λk D=>by grind [Qgj]⟩;have e:=Jff (UInt32.ofNat c) (show i+b.length<os.length by omega);rw[u _ (nR _),UInt32.toNat_ofNat',show c % 2^32=c by omega,show(0:UInt32).toNat=0 from rfl,Nat.mul_zero,Nat.add_zero]at e;rw[e,y,List.take_length,Jjs,Nat.add_mul]
theorem Qck{z:Nat}(hc:c<4294967296)(hx:x<4294967296)(hy:y<4294967296)(hz:z<4294967296):
  IntKind.u64.wrap ((c:Int)+IntKind.u64.wrap (IntKind.u64.wrap (IntKind.u64.wrap (x:Int)*IntKind.u64.wrap (y:Int))+IntKind.u64.wrap (z:Int)))=((c+(x*y+z):Nat):Int):=by
 have u:=Jys hx hy;have w:∀ n:Nat,n<18446744073709551616->IntKind.u64.wrap (n:Int)=(n:Int):=λn hn=>by rw[IntKind.wrap_u64];omega
 rw[w x om,w y om,w z om,<-Int.natCast_mul,w _ om,<-Int.natCast_add,w _ om,<-Int.natCast_add,w _ om]
theorem Vb{v u:Value}{w:World}(hv:NatV w v n)(hu:NatV w u m)(hln:(Jj n).length<=1000)(hlm:(Jj m).length<=1000): Ret Tryz.prog 96 [v,u] w λr w'=>NatV w' r (n*m)/\Fresh w r/\Ext w w':=by
 refine Jz Tryz.func96 Tryz.ntmps96 rfl kr rfl ?_;refine ρ ?_;refine cl (Zt hv) ?_;rintro v' w' ⟨⟨A,rfl,ha⟩,rfl⟩;refine ρ ?_;refine cl (Zt hu) ?_;rintro u' G ⟨⟨B,rfl,hb⟩,rfl⟩;generalize hL:(Jj n).length=L at *
 generalize hM:(Jj m).length=M at *
 refine ρ ?_;refine mkn EN (L+M) om (by unfold maxLen;omega) ?_;intro w1 O aa ai hO;have a6:Xd w1 G.heap.size (.slice O (L+M) (L+M)) (List.replicate (L+M) 0):=by
  have e:(madeCells (Value.int .u32 0).cells ((L+M)*1)).toList=Nc (List.replicate (L+M) 0):=by rw[Nat.mul_one,<-Jwq];exact Yr _ _
  grind
 refine ρ ?_;refine Qd (fun (i:Nat) (y:List UInt32)=>[(0,.slice A L L),(1,.slice B M M),(5,.slice O (L+M) (L+M)),(20,.int .i64 (L:Int)),(21,.int .i64 (i:Int))])
  (λi y w2=>i<=L/\Ext G w2/\MulO (Jj n) (Jj m) i y/\Xd w2 G.heap.size (.slice O (L+M) (L+M)) y) (λi _=>L-i) 0 (List.replicate (L+M) 0) sB
  ⟨Nat.zero_le _,aa,by grind [MulO.first],a6⟩ ?_
 rintro i y w2 ⟨hi,a5,hI,a4⟩;refine ρ ?_;refine ci (λh=>?_) (λh=>?_)
 .have li:i<L:=by have:=oT h;omega
  clear h;refine ρ ?_;refine Zk (fun (j c:Nat) (y:List UInt32)=>[(0,.slice A L L),(1,.slice B M M),(5,.slice O (L+M) (L+M)),(6,.int .i64 (i:Int)),(7,.int .u64 (c:Int)),(20,.int .i64 (L:Int)),(21,.int .i64 (i:Int)),(25,.int .i64 (M:Int)),(26,.int .i64 (j:Int))])
   (λj c y w3=>j<=M/\Ext G w3/\MulI (Jj n) (Jj m) i j c y/\Xd w3 G.heap.size (.slice O (L+M) (L+M)) y) (λj _ _=>M-j) 0 0 y sB
   ⟨Nat.zero_le _,a5,hI.start,a4⟩ ?_
  clear hI a4;rintro j c y w3 ⟨hj,Z,hI,J⟩;have D:y.length=L+M:=by rw[hI.len,hL,hM]
  refine ρ ?_;refine ci (λh=>?_) (λh=>?_)
  .have lj:j<M:=by have:=oT h;omega
   clear h;have U:Ext w3 w3.drew:=(Ext.refl w3).drew;have a9:=ha.ext (Z.trans U);have a8:=hb.ext (Z.trans U);have F:=Jb J U;rw[D]at F;have a3:Rd w3.drew 1 O (L+M) (Nc y):=Rd.own F;refine ρ ?_;refine dr [(0,0),(0,1),(0,2),(0,3),(0,4),(0,5),(0,6),(0,7),(0,8),(0,9),(0,10),(0,11),(0,12),(0,13),(0,14),(0,15),(0,16),(0,17),(0,18),(0,19),(0,20),(0,21)] kr ?_;refine ρd ?_;refine dix i a9 li ?_;refine ρd ?_;refine dld (a9.cell (Xk (show i<(Jj n).length by omega))) ?_;refine ρd ?_;refine dix j a8 lj ?_;refine ρd ?_;refine dld (a8.cell (Xk (show j<(Jj m).length by omega))) ?_;refine ρd ?_;refine dix (i+j) a3 om ?_;refine ρd ?_;refine dld (a3.cell (Xk (show i+j<y.length by omega))) ?_;refine ρd ?_;have hx:((Jj n).getD i 0).toNat<4294967296:=((Jj n).getD i 0).toNat_lt;have hy:((Jj m).getD j 0).toNat<4294967296:=((Jj m).getD j 0).toNat_lt;have hz:(y.getD (i+j) 0).toNat<4294967296:=(y.getD (i+j) 0).toNat_lt
   obtain⟨a2,ah⟩:=hI.step (s:=c+(((Jj n).getD i 0).toNat*((Jj m).getD j 0).toNat+(y.getD (i+j) 0).toNat)) om om rfl;have a7:=Qck hI.small hx hy hz;refine ρ ?_;generalize c+(((Jj n).getD i 0).toNat*((Jj m).getD j 0).toNat+(y.getD (i+j) 0).toNat)=s at *
   refine kv 7 (u:=.int .u64 (s:Int)) (congrArg (Value.int .u64) a7) ?_;refine kv 55 (u:=.int .u32 ((UInt32.ofNat s).toNat:Int)) (congrArg (Value.int .u32) ((congrArg IntKind.u32.wrap a7).trans (Yz s))) ?_;obtain⟨s1,s2,s3,s4,s5⟩:=Zl F (q:=i+j) om (.int .u32 ((UInt32.ofNat s).toNat:Int));refine ρ ?_;refine ix (i+j) a3 om ?_;refine sto (s1.trans (Xk (show i+j<y.length by omega))) s2 ?_;refine ρ ?_;refine Zs rfl rfl (by decide) rfl ?_;refine ρ ?_;refine Qa (j+1) (s / 4294967296) (y.set (i+j) (UInt32.ofNat s)) ?_ ⟨lj,(Z.trans U).setCell s4 _,a2,?_⟩ om
   .rw[Jvm];exact sB
   rw[Xd,List.length_set,D,<-Kd];exact s3
  have ae:j=M:=by grind
  subst ae;clear h;have ac:MulI (Jj n) (Jj m) i (Jj m).length c y:=by rw[hM];exact hI
  have hl:=ac.last (show i<(Jj n).length by omega);have F:=J;rw[Xd,D]at F;obtain⟨s1,s2,s3,s4,s5⟩:=Zl F (q:=i+j) om (.int .u32 ((UInt32.ofNat c).toNat:Int));refine ρ ?_;refine ix (i+j) (Rd.own F) om ?_;rw[Yz];refine sto (s1.trans (Xk (show i+j<y.length by omega))) s2 ?_;refine ρ ?_;rw[hM]at hl;refine Qv (i+1) (y.set (i+j) (UInt32.ofNat c)) sO ⟨li,Z.setCell s4 _,hl,?_⟩ om;rw[Xd,List.length_set,D,<-Kd];exact s3
 have af:i=L:=by grind
 have D:y.length=L+M:=by rw[hI.len,hL,hM]
 have a1:=hI.val;rw[af,List.take_of_length_le om,Zf,Zf]at a1;have J:=a4;rw[Xd,D]at J;have hr:=Rd.own J;refine ρ ?_;rw[<-D]at hr ⊢;refine cl (Gc hr (nR _) om) ?_;rintro t w4 ⟨rfl,rfl⟩;have:=Ka hr om;rw[a1]at this ⊢;refine ρ ?_;exact Jq ⟨this,λad _ _ e=>hO ad (by injection e),a5⟩
open Go.RowKit Pl Go.Wk
variable {l os:List UInt32}{c d k n r x:Nat}{A:Option Addr}{w:World}
theorem Jnb(h0:n≠0)(h:n<4294967296): Jj n=[UInt32.ofNat n]:=by grind [Jkg,limbs_0]
theorem Jcn{cs:List Value}(hr:Rd w 1 A n cs)(h1:∀ u∈cs,u.oneCell'=true)(hb:n*4<=140737488355328):
  Ret Tryz.prog 131 [.slice A n c] w λv w'=>w'.ownsRow w.heap.size 25 1 v n cs/\Ext w w':=by
 refine Jz Tryz.func131 Tryz.ntmps131 rfl kr rfl ?_;refine ρ ?_;refine snil ?_;refine ρ ?_;refine ci (λh=>?_) (λh=>?_)
 .have U:A=none:=by simpa using h
  subst U;have hn:n=0:=by
   rcases Nat.eq_zero_or_pos n with h0|h0
   .exact h0
   obtain⟨ad,Z,_⟩:=hr.isome h0 om;cases Z
  subst hn;have J:cs=[]:=List.eq_nil_of_length_eq_zero (by rw[hr.len]);subst J;refine ρ ?_;exact Jq ⟨Xj _ _ _ _,Ext.refl w⟩
 refine ρ ?_;refine bsl Jst ?_;intro w1 b y O G;refine ρ ?_;refine apo y EN (G.own (n:=0) O rfl (Nat.zero_le _)) (hr.ext y) h1 (by unfold maxLen;omega) om ?_;intro v2 w2 D F _ _;refine ρ ?_;rw[Nat.zero_add,List.nil_append]at D;exact Jq ⟨D,F⟩
theorem Jfh(h:k<l.length): val (l.drop k)=(l.getD k 0).toNat+4294967296*val (l.drop (k+1)):=by grind [List.drop_eq_getElem_cons,val,List.getD,List.getElem?_eq_getElem]
structure DivI(l:List UInt32)(d k r:Nat)(os:List UInt32): Prop where
 len:os.length=l.length
 lt:r<d
 old:∀ j,j<k->os.getD j 0=l.getD j 0
 val:val (l.drop k)=Pl.val (os.drop k)*d+r
theorem DivI.step{s:Nat}(h:DivI l d (k+1) r os)(hk:k<l.length)(hd:d<4294967296)(hs:s=r*4294967296+(l.getD k 0).toNat): DivI l d k (s % d) (os.set k (UInt32.ofNat (s / d)))/\s<18446744073709551616:=by
 obtain⟨h1,Z,U,y⟩:=h;have G:(l.getD k 0).toNat<4294967296:=(l.getD k 0).toNat_lt;have u:s<4294967296*d:=by rw[hs];omega
 have J:s / d<4294967296:=Nat.div_lt_of_lt_mul (by grind);refine⟨⟨by grind,Nat.mod_lt _ om,λj O=>by grind,?_⟩,om⟩;rw[Jfh hk,Jfh (l:=os.set k (UInt32.ofNat (s / d))) (k:=k) (by grind),y];have F:(os.set k (UInt32.ofNat (s / d))).getD k 0=UInt32.ofNat (s / d):=by grind
 have D:(os.set k (UInt32.ofNat (s / d))).drop (k+1)=os.drop (k+1):=List.drop_set_of_lt om;rw[F,D,UInt32.toNat_ofNat',Nat.mod_eq_of_lt (show s / d<2^32 by omega)];grind [Nat.div_add_mod,Nat.mul_add,Nat.add_mul,Nat.mul_assoc,Nat.mul_comm]
theorem Qhl(hr:r<4294967296)(hx:x<4294967296): bits .or .u64 (IntKind.u64.wrap ((r:Int)*2^min (32:Int).toNat IntKind.u64.bits)) (IntKind.u64.wrap (x:Int))=((r*4294967296+x:Nat):Int):=by
 have D:(2:Int)^min (32:Int).toNat IntKind.u64.bits=4294967296:=by decide
 have y:IntKind.u64.wrap ((r:Int)*4294967296)=((r*4294967296:Nat):Int):=by rw[IntKind.wrap_u64];omega
 have u:IntKind.u64.wrap (x:Int)=(x:Int):=by rw[IntKind.wrap_u64];omega
 rw[D,y,u,u64_or_nat _ _ om om,nat_join 32 (r*4294967296) x (by simp) om]
theorem Qhm{L base:Nat}(hL:l.length=L)(hLm:L<=1100)(ho:w.ownsRow base 25 1 (.slice A L c) L (Nc l))(h0:0<d)(hd:d<4294967296):
  Ret Tryz.prog 132 [.slice A L c,.int .u32 (d:Int)] w λr w'=>r=.int .u32 ((val l % d:Nat):Int)/\(∃ os:List UInt32,os.length=L/\val os=val l / d/\w'.ownsRow base 25 1 (.slice A L c) L (Nc os))/\w.grownBy w' (Value.slice A L c).ownBlock:=by
 refine Jz Tryz.func132 Tryz.ntmps132 rfl kr rfl ?_;refine ρ ?_;refine Zk (fun (k r:Nat) (os:List UInt32)=>[(0,.slice A L c),(1,.int .u32 (d:Int)),(5,.int .u64 (r:Int)),(6,.int .i64 ((k:Int)-1))])
  (λk r os w1=>k<=L/\DivI l d k r os/\w1.ownsRow base 25 1 (.slice A L c) L (Nc os)/\w.grownBy w1 (Value.slice A L c).ownBlock) (λk _ _=>k) L 0 l sB
  ⟨nR _,⟨rfl,h0,λ_ _=>rfl,by grind [List.drop_of_length_le,val]⟩,ho,Xc (Ext.refl w) _⟩ ?_
 rintro k r os w1 ⟨hk,O,F,J⟩;have a1:os.length=L:=by rw[O.len,hL]
 refine ρ ?_;refine ci (λh=>?_) (λh=>?_)
 .obtain⟨k,rfl⟩:∃ j,k=j+1:=⟨k-1,by grind⟩;clear h;obtain⟨s,hs⟩:∃ s,s=r*4294967296+(l.getD k 0).toNat:=⟨_,rfl⟩;obtain⟨y,a3⟩:=O.step om hd hs;have hx:(l.getD k 0).toNat<4294967296:=(l.getD k 0).toNat_lt;have a4:=O.lt;have D:Rd w1 1 A L (Nc os):=Rd.own F;have G:=O.old k om;refine ρ ?_;refine wshl rfl rfl (by decide) rfl ?_;refine ρ ?_;refine ix k D om ?_;refine ρ ?_;refine ld (D.cell (Xk (show k<os.length by omega))) ?_;rw[G];refine ρ ?_;have U:bits .or .u64 (IntKind.u64.wrap ((r:Int)*2^min (32:Int).toNat IntKind.u64.bits)) (IntKind.u64.wrap ((l.getD k 0).toNat:Int))=(s:Int):=by grind [Qhl]
  refine kv 5 (u:=.int .u64 (s:Int)) (congrArg (Value.int .u64) U) ?_;refine kv 24 (u:=.int .u64 (s:Int)) (congrArg (Value.int .u64) U) ?_;have ed:IntKind.u64.wrap (d:Int)=(d:Int):=by rw[IntKind.wrap_u64];omega
  refine kv 26 (u:=.int .u64 (d:Int)) (congrArg (Value.int .u64) ed) ?_;refine Jjr rfl rfl om rfl ?_;have hq:s / d<=s:=Nat.div_le_self _ _;have e2:IntKind.u32.wrap (IntKind.u64.wrap ((s:Int).tdiv d))=((UInt32.ofNat (s / d)).toNat:Int):=by grind [Yh,Yz]
  obtain⟨s1,s2,s3,s4,s5⟩:=Zl F (q:=k) om (.int .u32 ((UInt32.ofNat (s / d)).toNat:Int));refine ρ ?_;refine ix k D om ?_;rw[e2];refine sto (s1.trans (Xk (show k<os.length by omega))) s2 ?_;refine ρ ?_;refine kv 32 (u:=.int .u64 (d:Int)) (congrArg (Value.int .u64) ed) ?_;refine Kl rfl rfl om rfl ?_;refine ρ ?_;refine Qa k (s % d) (os.set k (UInt32.ofNat (s / d))) ?_ ⟨om,y,?_,Xv J s5⟩ om
  .have e3:(s:Int).tmod d=((s % d:Nat):Int):=rfl;rw[e3];exact sO
  rw[<-Kd];exact s3
 have a2:k=0:=by have:=oF h;omega
 subst a2;obtain⟨i1,i2,_,Z⟩:=O;rw[List.drop_zero,List.drop_zero]at Z;have hm:r=val l % d:=by rw[Z,Nat.add_comm,Nat.add_mul_mod_self_right,Nat.mod_eq_of_lt i2]
 have hv:val os=val l / d:=by
  rw[Z,Nat.add_comm,Nat.add_mul_div_right _ _ h0,Nat.div_eq_of_lt i2,Nat.zero_add]
 refine ρ ?_;refine Jq ⟨?_,⟨os,a1,hv,F⟩,J⟩;rw[Yz,UInt32.toNat_ofNat',Nat.mod_eq_of_lt (show r<2^32 by omega),hm]
end Go.Proofs.YtebiphhfkdbpfaaGreat
namespace Go.Wk
end Go.Wk
namespace Go.Proofs.YtebiphhfkdbpfaaGreat
open Go.RowKit Pl Go.Wk
attribute [local irreducible] WC WL QX WD WDB WP WN WG
variable {m n:Nat}{N N':Nat->Prop}{v:Value}{w w':World}
theorem Jnc(h:0<(Jj n).length): n≠0:=by grind [limbs_0]
def NatX(N:Nat->Prop)(w:World)(v:Value)(n:Nat): Prop:=NatV w v n/\(n≠0->∀ ad m c,v=.slice (some ad) m c->¬ N ad.block)
theorem NatX.ext{N:Nat->Prop}{w w':World}{v:Value}{n:Nat}(h:NatX N w v n)(hx:Ext w w'): NatX N w' v n:=⟨h.1.ext hx,h.2⟩
theorem NatX.gr(h:NatX N w v n)(hg:GrN N w w'): NatX N w' v n:=by
 obtain⟨⟨A,c,rfl,F,D,y⟩,u⟩:=h;exact⟨⟨A,c,rfl,F,D,Zg y hg (λh0 G e=>u (Jnc (by grind [Qpq])) G _ _ (by rw[e]))⟩,u⟩
theorem NatX.nil{N:Nat->Prop}(w:World): NatX N w (.slice none 0 0) 0:=⟨NatV.nil w,λ_ u m c e=>by cases e⟩
theorem limbs_pos'(h:n≠0): 0<(Jj n).length:=by rw[Jkg h];simp
theorem NatX.old(h:NatX N w v n)(hs:∀ k,N' k->N k∨w.heap.size<=k): NatX N' w v n:=⟨h.1,λh0 y m c e u=>by
 rcases hs _ u with h1|h1
 .exact h.2 h0 y m c e h1
 obtain⟨A,G,F,_,_,D⟩:=h.1;grind [Rd.isome,limbs_pos']⟩
theorem Fresh.x(h:Fresh w v)(hn:NatV w' v n)(hN:∀ k,N k->k<w.heap.size): NatX N w' v n :=
 ⟨hn,λ_ y m c e u=>by have:=h y m c e;have:=hN _ u;omega⟩
theorem Jmf(hv:NatV w v n)(hs:(Jj n).length<=1000): Ret Tryz.prog 103 [v] w λr w'=>NatV w' r n/\Fresh w r/\Ext w w':=by
 refine Jz Tryz.func103 Tryz.ntmps103 rfl kr rfl ?_;refine ρ ?_;refine cl (Zt hv) ?_;rintro y w' ⟨⟨A,rfl,J⟩,rfl⟩;refine ρ ?_;refine cl (Jcn J (Jwr _) om) ?_;rintro y w1 ⟨u,D⟩;obtain⟨Z,O,rfl,G,F⟩:=Jy u;refine ρ ?_;refine Jq ⟨⟨Z,O,rfl,G,om,Rd.own u⟩,λU m c e=>?_,D⟩;injection e with e1 e2 e3
 subst e1;exact(F U.block rfl).1
theorem Jtg: ∃ k:Nat,k=900:=⟨_,rfl⟩
noncomputable def bK: Nat:=Classical.choose Jtg
theorem bK_eq: bK=900:=Classical.choose_spec Jtg
def Nb(n:Nat): Prop:=n<4294967296^bK
theorem Nb.len(h:Nb n): (Jj n).length<=1000:=by
 rcases Nat.eq_zero_or_pos n with h0|h0
 .rw[h0,limbs_0];simp
 have u:=Jkh (n:=n) om;rcases Nat.lt_or_ge bK ((Jj n).length-1) with h2|h2
 .exact absurd (nM h (nL (Nat.pow_le_pow_right (by decide) (Nat.le_of_lt h2)) u)) (Nat.lt_irrefl _)
 rw[bK_eq]at h2;omega
theorem Nb.le(h:Nb n)(hm:m<=n): Nb m:=nN hm h
structure NatsV(w:World)(A:Option Addr)(us:List Value)(ns:List Nat): Prop where
 rd:Rd w 1 A us.length us
 len:us.length=ns.length
 nat:∀ i,i<ns.length->NatV w (us.getD i (.int .i64 0)) (ns.getD i 0)
end Go.Proofs.YtebiphhfkdbpfaaGreat
namespace Go.Wk
open Go.RowKit
variable {cs xs:List Value}{b base c d dT e j m n sT sc t ty:Nat}{N N':Nat->Prop}{x y:Operand}{A B:Option Addr}{k:TK}{α:Type}{E:TypeId}{u v v' z:Value}{w w':World}
section
variable {α:Type} {E:TypeId} {sz:Nat} {Φ:(Nat->Prop)->World->List Value->α->Prop} {N N' M:Nat->Prop} {w w':World} {base:Nat} {v:Value} {ls:List α}
structure Sta(Φ:(Nat->Prop)->World->List Value->α->Prop): Prop where
 gr:∀ {N w w' cs a},Φ N w cs a->GrN N w w'->Φ N w' cs a
 old:∀ {N N':Nat->Prop} {w cs a},Φ N w cs a->(∀ k,N' k->N k∨w.heap.size<=k)->Φ N' w cs a
def GX(sz:Nat)(Φ:(Nat->Prop)->World->List Value->α->Prop)(N:Nat->Prop)(w:World)(v:Value)(ls:List α): Prop :=
 GV sz (Φ N) w v ls/\(ls≠[]->∀ ad m c,v=.slice (some ad) m c->¬ N ad.block)
def OX(E:TypeId)(sz:Nat)(Φ:(Nat->Prop)->World->List Value->α->Prop)(N:Nat->Prop)(w:World)(base:Nat)(v:Value)(ls:List α): Prop :=
 ∃ ps:List (List Value×α),ls=ps.map (·.2)/\w.ownsRow base E sz v ps.length (Jd ps)/\∀ p∈ps,p.1.length=sz/\Φ N w p.1 p.2
theorem GX.gr(h:GX sz Φ N w v ls)(hΦ:Sta Φ)(hs:0<sz)(hg:GrN N w w'): GX sz Φ N w' v ls:=by
 obtain⟨⟨ps,A,c,e,F,U,O,u,y⟩,hn⟩:=h;refine⟨⟨ps,A,c,e,F,U,O,Zg u hg λh0 Z J=>hn ?_ Z ps.length c (by rw[F,J]),λp D=>⟨(y p D).1,hΦ.gr (y p D).2 hg⟩⟩,hn⟩;intro G;rw[u.len]at h0;have:ps.length=0:=by
  have:=congrArg List.length e;rw[G,List.length_map]at this;exact this.symm
 rw[this]at h0;omega
theorem GX.ext(h:GX sz Φ N w v ls)(hΦ:Sta Φ)(hs:0<sz)(hx:Ext w w'): GX sz Φ N w' v ls:=h.gr hΦ hs (GrN.ext hx)
theorem GX.old(h:GX sz Φ N w v ls)(hΦ:Sta Φ)(hs:0<sz)(hN:∀ k,N' k->N k∨w.heap.size<=k): GX sz Φ N' w v ls:=by
 obtain⟨⟨ps,A,c,e,F,Z,U,u,y⟩,hn⟩:=h;refine⟨⟨ps,A,c,e,F,Z,U,u,λp D=>⟨(y p D).1,hΦ.old (y p D).2 hN⟩⟩,λh0 ad m c' ev J=>?_⟩;rcases hN _ J with h1|h1
 .exact hn h0 ad m c' ev h1
 have G:0<ps.length:=by
  rcases Nat.eq_zero_or_pos ps.length with h2|h2
  .exact absurd (by rw[e,List.eq_nil_of_length_eq_zero h2];rfl) h0
  exact h2
 obtain⟨a1,O,hb⟩:=u.isome G hs;rw[F,O]at ev;injection ev with ev _ _
 injection ev with ev
 subst ev;omega
theorem GX.gv(h:GX sz Φ N w v ls): GV sz (Φ N) w v ls:=h.1
theorem OX.nil(w:World)(base:Nat): OX E sz Φ N w base (.slice none 0 0) []:=⟨[],rfl,Xj _ _ _ _,λp u=>by cases u⟩
theorem OX.form(h:OX E sz Φ N w base v ls): ∃ A c,v=.slice A ls.length c/\ls.length<=c/\∀ g,v.ownBlock=some g->base<=g/\g<w.heap.size:=by
 obtain⟨ps,e,u,F⟩:=h;obtain⟨A,c,D,G,y⟩:=Jy u;have:ls.length=ps.length:=by rw[e,List.length_map]
 exact⟨A,c,by rw[this];exact D,om,y⟩
theorem OX.gr(h:OX E sz Φ N w base v ls)(hΦ:Sta Φ)(hg:GrN M w w')(hM:∀ k,M k->N k/\v.ownBlock≠some k): OX E sz Φ N w' base v ls:=by
 obtain⟨ps,e,D,u⟩:=h;exact⟨ps,e,Jo D hg λg G hn=>(hM g hn).2 G,λp y=>⟨(u p y).1,hΦ.gr (u p y).2 (hg.mono λk _ F=>(hM k F).1)⟩⟩
theorem OX.ext(h:OX E sz Φ N w base v ls)(hΦ:Sta Φ)(hx:Ext w w'): OX E sz Φ N w' base v ls:=h.gr (M:=λ_=>False) hΦ (GrN.ext hx) λk e=>e.elim
theorem OX.old(h:OX E sz Φ N w base v ls)(hΦ:Sta Φ)(hN:∀ k,N' k->N k∨w.heap.size<=k): OX E sz Φ N' w base v ls:=by
 obtain⟨ps,e,D,u⟩:=h;exact⟨ps,e,D,λp y=>⟨(u p y).1,hΦ.old (u p y).2 hN⟩⟩
theorem OX.gx(h:OX E sz Φ N w base v ls)(hΦ:Sta Φ)(hm:ls.length<=1100000)(hN:∀ k,N' k->N k/\v.ownBlock≠some k): GX sz Φ N' w v ls:=by
 obtain⟨ps,e,F,D⟩:=h;have O:ls.length=ps.length:=by rw[e,List.length_map]
 obtain⟨A,c,J,G,U⟩:=Jy F;subst J;exact⟨⟨ps,A,c,e,rfl,G,om,Rd.own F,λp u=>⟨(D p u).1,hΦ.old (D p u).2 λk y=>.inl (hN k y).1⟩⟩,λ_ ad m Z ev y=>(hN _ y).2 (by rw[ev];rfl)⟩
theorem OX.after{ps:List (List Value×α)}(hΦ:Sta Φ)(e:ls=ps.map (·.2))(hp:∀ p∈ps,p.1.length=sz/\Φ N w p.1 p.2){w':World}{x:α}(hl:cs.length=sz)(hx:Φ N w cs x)(ho:w'.ownsRow base E sz v' (ps.length+1) (Jd ps++cs))(hg:w.grownBy w' v.ownBlock)(hv:∀ g,v.ownBlock=some g->N g): OX E sz Φ N w' base v' (ls++[x]):=by
 have u:GrN N w w':=GrN.by hg hv
 refine⟨ps++[(cs,x)],by rw[e];simp,?_,λp y=>?_⟩
 .have D:Jd (ps++[(cs,x)])=Jd ps++cs:=by simp[Jd]
  rw[List.length_append,D];exact ho
 rcases List.mem_append.1 y with h'|h'
 .exact⟨(hp p h').1,hΦ.gr (hp p h').2 u⟩
 rw[List.mem_singleton.1 h'];exact⟨hl,hΦ.gr hx u⟩
end
theorem apX{P:Program}{al:AL}{Q:Exit->Act->World->Prop}{ops:Array Oper}{rest:List Oper}{pos:String}{aft:Array Edge}{E sz bytes:Nat}(hE:ElT P t E sz bytes z){Φ:(Nat->Prop)->World->List Value->α->Prop}(hΦ:Sta Φ){ls:List α}{a:α}(ho:OX E sz Φ N w base v ls)(hb:Blk w b E cs)(hl:cs.length=sz)(h1:∀ u∈cs,u.oneCell'=true)(hx':Φ N w cs a)(hv:∀ g,v.ownBlock=some g->N g)(hm:ls.length<=1100000)(hby:bytes<=64)(hbase:base<=w.heap.size)(kk:∀ v' w',OX E sz Φ N w' base v' (ls++[a])->w.grownBy w' v.ownBlock->(∀ g,v'.ownBlock=some g->v.ownBlock=some g∨w.heap.size<=g)->WL P n ops Q rest ((d,v')::al) w')(hx:ev al x=some v:=by rfl)(hy:ev al y=some (.slice (some ⟨b,0,none⟩) 1 1):=by rfl)(hd:Nat.blt d n=true:=by rfl):
  WL P n ops Q (⟨some d,.call { callee:=.builtin .append,args:=#[x,y],argTypes:=#[t,t] },ty,pos,aft,none⟩::rest) al w:=by
 obtain⟨ps,e,J,O⟩:=ho;have F:ps.length<=1100000:=by
  have:=congrArg List.length e;rw[List.length_map]at this;omega
 have U:(ps.length+1)*bytes<=1100001*64:=Nat.mul_le_mul om hby;refine apb hE J (hb.rd (n:=1) om) h1 (by unfold maxLen;omega) om hbase ?_ hx hy hd;intro v' w' D G hn;exact kk v' w' (OX.after hΦ e O hl hx' D G hv) G hn
theorem Jpj{α:Type}{sz:Nat}{q:List Value×α}: ∀ {ps:List (List Value×α)} {j:Nat},(∀ p∈ps,p.1.length=sz)->j<ps.length->(Jd ps).take (j*sz)++q.1++(Jd ps).drop (j*sz+sz)=Jd (ps.set j q)
 | [],_,_,h=>by simp at h
 | p::ps,0,h,_=>by
  have hp:=h p (by simp);have e:Jd (p::ps)=p.1++Jd ps:=rfl;have e2:Jd ((p::ps).set 0 q)=q.1++Jd ps:=rfl;rw[e,e2,Nat.zero_mul,Nat.zero_add,List.take_zero,List.nil_append,List.drop_append,List.drop_of_length_le om,List.nil_append,hp,Nat.sub_self,List.drop_zero]
 | p::ps,j+1,h,hj=>by
  have hp:=h p (by simp);have ih:=Jpj (q:=q) (ps:=ps) (j:=j) (λx hx=>h x (by simp[hx])) (by simpa using hj);have e:Jd (p::ps)=p.1++Jd ps:=rfl;have e2:Jd ((p::ps).set (j+1) q)=p.1++Jd (ps.set j q):=rfl;rw[e,e2,<-ih,Nat.succ_mul,List.take_append,List.take_of_length_le om,List.drop_append,List.drop_of_length_le om,List.nil_append,hp,show j*sz+sz-sz=j*sz by omega,show j*sz+sz+sz-sz=j*sz+sz by omega];simp
theorem OX.put{sz:Nat}{Φ:(Nat->Prop)->World->List Value->α->Prop}{ps:List (List Value×α)}{a:α}(hΦ:Sta Φ)(hp:∀ p∈ps,p.1.length=sz/\Φ N w p.1 p.2)(hj:j<ps.length)(hl:cs.length=sz)(hx:Φ N w cs a)(ho:w'.ownsRow base E sz v ps.length ((Jd ps).take (j*sz)++cs++(Jd ps).drop (j*sz+sz)))(hg:w.grownBy w' v.ownBlock)(hv:∀ g,v.ownBlock=some g->N g): OX E sz Φ N w' base v ((ps.map (·.2)).set j a):=by
 have u:GrN N w w':=GrN.by hg hv
 rw[Jpj (q:=(cs,a)) (λp y=>(hp p y).1) hj]at ho;refine⟨ps.set j (cs,a),by simp[List.map_set],by rw[List.length_set];exact ho,λp y=>?_⟩;rcases List.mem_or_eq_of_mem_set y with h'|h'
 .exact⟨(hp p h').1,hΦ.gr (hp p h').2 u⟩
 rw[h'];exact⟨hl,hΦ.gr hx u⟩
section
variable {P:Program} {n:Nat} {al:AL} {w:World} {Q:Exit->Act->World->Prop} {ops:Array Oper} {rest:List Oper}
variable {d ty:Nat} {op:Op} {pos:String} {aft:Array Edge} {tt:TT}
theorem stX[h:Tab P tt]{sz:Nat}{Φ:(Nat->Prop)->World->List Value->α->Prop}(hΦ:Sta Φ){ls:List α}{a:α}(ho:OX e sz Φ N w base (.slice A m c) ls)(hm:m=ls.length)(hj:j<ls.length)(hx':Φ N w cs a)(hv:∀ g,(Value.slice A m c).ownBlock=some g->N g)(h1:∀ u∈cs,u.oneCell'=true)(kk:∀ w1,OX e sz Φ N w1 base (.slice A m c) (ls.set j a)->w.grownBy w1 (Value.slice A m c).ownBlock->WL P n ops Q rest al w1)(ht:tk tt t=some k:=by rfl)(hk:k.desc=.invalid:=by rfl)(hs:k.size=sz:=by rfl)(hl:cs.length=sz:=by rfl)(hx:ev al x=some (.pointer (some (adr A (j*sz)))):=by rfl)(hy:ev al y=some (.agg cs.toArray):=by rfl):
  WL P n ops Q (⟨none,.store t x y,ty,pos,aft,none⟩::rest) al w:=by
 obtain⟨ps,U,J,Z⟩:=ho;have O:ls.length=ps.length:=by rw[U,List.length_map]
 have G:m=ps.length:=om
 rw[<-G]at J;refine stoE J om (λw1 F D=>kk w1 ?_ D) h1 ht hk hs hl hx hy;rw[U];rw[G]at F D hv ⊢;exact OX.put hΦ Z om hl hx' F D hv
theorem stX1[h:Tab P tt]{Φ:(Nat->Prop)->World->List Value->α->Prop}(hΦ:Sta Φ){ls:List α}{a:α}(ho:OX e 1 Φ N w base (.slice A m c) ls)(hm:m=ls.length)(hj:j<ls.length)(hx':Φ N w [u] a)(hv:∀ g,(Value.slice A m c).ownBlock=some g->N g)(h1:u.oneCell'=true)(kk:∀ w1,OX e 1 Φ N w1 base (.slice A m c) (ls.set j a)->w.grownBy w1 (Value.slice A m c).ownBlock->WL P n ops Q rest al w1)(ht:tk tt t=some k:=by rfl)(hk:k.size=1:=by rfl)(hp':Zw k.desc=true:=by rfl)(hx:ev al x=some (.pointer (some (adr A j))):=by rfl)(hy:ev al y=some u:=by rfl):
  WL P n ops Q (⟨none,.store t x y,ty,pos,aft,none⟩::rest) al w:=by
 obtain⟨ps,e1,Z,hp⟩:=ho;have a1:ls.length=ps.length:=by rw[e1,List.length_map]
 have F:m=ps.length:=om
 rw[<-F]at Z;obtain⟨s1,s2,J,s4,G⟩:=Zl Z (q:=j) om u;have a2:(Jd ps).length=ps.length*1:=Jpk λp hm=>(hp p hm).1;obtain⟨U,O⟩:∃ U,(Jd ps)[j]?=some U:=⟨_,List.getElem?_eq_getElem om⟩;refine sto (s1.trans O) s2 (kk _ ?_ G) ht hk hp' hx hy h1;have D:(Jd ps).set j u=(Jd ps).take (j*1)++[u]++(Jd ps).drop (j*1+1):=by
  rw[Nat.mul_one,List.set_eq_take_append_cons_drop,if_pos om];simp
 rw[D]at J;rw[e1];rw[F]at J G hv ⊢;exact OX.put hΦ hp om rfl hx' J G hv
theorem Qkg(w:World)(dT sT ty elem:TypeId)(g dLen dCap:Nat)(a:Addr)(sCap sz:Nat)(cur:Array Value)(t:TypeId)(cs:List Value)(hu:P.underlying dT=some (.slice elem))(hs:(P.info? elem).map (·.size)=some sz)(hg:w.heap[g]?=some (.cells cur t (0,0)))(hn:cs.length=dLen*sz)(hsrc:∀ j v,cs[j]?=some v->w.cell? (a.add j)=some v)(hfit:cs.length<=cur.size)(h1:∀ v∈cs,v.oneCell'=true):
  (Builtin.copy_ #[dT,sT] ty #[.slice (some ⟨g,0,none⟩) dLen dCap,.slice (some a) dLen sCap]).run P w =
   .ok (goInt dLen) (w.setRow g (cs++cur.toList.drop cs.length).toArray):=by
 have y:=run_loadCells_list (P:=P) w a cs hsrc;have u:=run_storeCells_at (P:=P) g 0 t cs 0 cur w hg (by simpa using hfit) h1;simp only[Nat.add_zero,Nat.zero_add,List.take_zero,List.nil_append]at u;cases hq:P.info? elem with
 | none=>simp[hq]at hs
 | some i=>
  have hi:i.size=sz:=by simpa [hq] using hs
  simp[Builtin.copy_,run_underlying hu,Builtin.lenOf,Builtin.firstCells,sizeOf,typeInfo,hq,hi,<-hn,y,u]
theorem cpO[h:Tab P tt]{sz:Nat}(ho:w.ownsRow base e sz (.slice A m c) m cs)(hr:Rd w sz B m xs)(h0:0<m)(hsz:0<sz)(h1:∀ u∈xs,u.oneCell'=true)(kk:∀ w1,w1.ownsRow base e sz (.slice A m c) m xs->w.grownBy w1 (Value.slice A m c).ownBlock->WL P n ops Q rest ((d,.int .i64 (m:Int))::al) w1)(ht:tk tt dT=some k:=by rfl)(hk:k.desc=.slice e:=by rfl)(hz:k.esz=sz:=by rfl)(hx:ev al x=some (.slice A m c):=by rfl)(hy:ev al y=some (.slice B m sc):=by rfl)(hd:Nat.blt d n=true:=by rfl):
  WL P n ops Q (⟨some d,.call { callee:=.builtin .copy,args:=#[x,y],argTypes:=#[dT,sT] },ty,pos,aft,none⟩::rest) al w:=by
 have O:=Ua h.ok ht hk hz;rcases ho.2 with⟨_,h2⟩|⟨g,cap,cur,hv,hb,hg,hc,hcm,hcs,hcur⟩
 .omega
 injection hv with e1 _ e3
 subst e1;subst e3;have D:=hr.len;obtain⟨ad,e2,a1,F⟩:=hr.2 (by rw[D];exact Nat.mul_pos h0 hsz);subst e2;have Z:m*sz<=c*sz:=nO _ hc;have J:(P.info? e).map (·.size)=some sz:=O.2
 have G:=λty=>Qkg (P:=P) w dT sT ty e g m c ad sc sz cur e xs O.1 J hg D F om h1;refine wop (w':=w.setRow g (xs++cur.toList.drop xs.length).toArray) hd (λa U=>?_) (kk _ ⟨D,.inr ⟨g,c,_,rfl,hb,setRow_heap w g cur _ e (0,0) hg,hc,hcm,?_,?_⟩⟩ (Jjd w g _))
 .simp[execOp,resolve,invoke,builtin,U.ev hx,U.ev hy,G,goInt]
 .simp;omega
 rw[List.take_append,List.take_of_length_le om];simp[D]
theorem cpX[h:Tab P tt]{sz:Nat}{Φ:(Nat->Prop)->World->List Value->α->Prop}(hΦ:Sta Φ){l0 ls:List α}(ho:OX e sz Φ N' w base (.slice A m c) l0)(hl0:l0.length=m)(hs:GX sz Φ N w (.slice B m sc) ls)(h0:0<m)(hsz:0<sz)(hN:∀ cs a,Φ N w cs a->Φ N' w cs a)(h1:∀ cs a,Φ N w cs a->∀ u∈cs,u.oneCell'=true)(hv:∀ g,(Value.slice A m c).ownBlock=some g->N' g)(kk:∀ w1,OX e sz Φ N' w1 base (.slice A m c) ls->w.grownBy w1 (Value.slice A m c).ownBlock->WL P n ops Q rest ((d,.int .i64 (m:Int))::al) w1)(ht:tk tt dT=some k:=by rfl)(hk:k.desc=.slice e:=by rfl)(hz:k.esz=sz:=by rfl)(hx:ev al x=some (.slice A m c):=by rfl)(hy:ev al y=some (.slice B m sc):=by rfl)(hd:Nat.blt d n=true:=by rfl):
  WL P n ops Q (⟨some d,.call { callee:=.builtin .copy,args:=#[x,y],argTypes:=#[dT,sT] },ty,pos,aft,none⟩::rest) al w:=by
 obtain⟨J,e0,D,a2⟩:=ho;obtain⟨⟨ps,A',c',e1,e2,e3,e4,hr,U⟩,_⟩:=hs;have a1:J.length=m:=by rw[<-hl0,e0,List.length_map]
 injection e2 with e5 e6 e7
 subst e5;rw[a1]at D;rw[<-e6]at hr;refine cpO D hr h0 hsz (λu hu=>?_) (λw1 Z F=>kk w1 ⟨ps,e1,by rw[<-e6];exact Z,λp G=>⟨(U p G).1,hΦ.gr (hN _ _ (U p G).2) (GrN.by F hv)⟩⟩ F) ht hk hz hx hy hd;obtain⟨p,G,O⟩:=List.mem_flatMap.1 hu;exact h1 _ _ (U p G).2 u O
theorem GX.el{sz:Nat}{Φ:(Nat->Prop)->World->List Value->α->Prop}{w:World}{ls:List α}(h:GX sz Φ N w v ls): ∃ A c cs,v=.slice A ls.length c/\ls.length<=c/\ls.length<=1100000/\Rd w sz A ls.length cs/\(0<ls.length->0<sz->∃ ad,A=some ad/\¬ N ad.block)/\∀ i (hi:i<ls.length),∃ ce,ce.length=sz/\Φ N w ce ls[i]/\∀ j u,ce[j]?=some u->w.cell? ((adr A (i*sz)).add j)=some u:=by
 obtain⟨A,c,cs,F,U,O,y,J⟩:=h.1.parts;refine⟨A,c,cs,F,U,O,y,λh0 G=>?_,J⟩;obtain⟨ad,D,_⟩:=y.isome h0 G;exact⟨ad,D,h.2 (λe=>by rw[e]at h0;simp at h0) ad ls.length c (by rw[F,D])⟩
theorem OX.el{sz:Nat}{Φ:(Nat->Prop)->World->List Value->α->Prop}{w:World}{ls:List α}(h:OX E sz Φ N w base v ls): ∃ A c cs,v=.slice A ls.length c/\ls.length<=c/\Rd w sz A ls.length cs/\∀ i (hi:i<ls.length),∃ ce,ce.length=sz/\Φ N w ce ls[i]/\∀ j u,ce[j]?=some u->w.cell? ((adr A (i*sz)).add j)=some u:=by
 obtain⟨ps,e,G,O⟩:=h;subst e;obtain⟨A,c,e1,Z,e3⟩:=Jy G;subst e1;have y:(ps.map λx=>x.2).length=ps.length:=List.length_map ..;refine⟨A,c,Jd ps,by rw[y],by rw[y];exact Z,by rw[y];exact Rd.own G,λi hi=>?_⟩;have hi:i<ps.length:=by rw[<-y];exact hi
 have J:=O ps[i] (List.getElem_mem hi);refine⟨ps[i].1,J.1,by simpa using J.2,λj u D=>?_⟩;have U:j<sz:=by
  rw[<-J.1];rcases Nat.lt_or_ge j ps[i].1.length with h|h
  .exact h
  rw[List.getElem?_eq_none h]at D;cases D
 rw[Gv];exact(Rd.own G).cell ((Jbp (λp F=>(O p F).1) (gE hi) U).trans D)
end
end Go.Wk
namespace Go.Wk
open Go.RowKit
variable {ds:List Nat}{l:List Oper}{b d i k t:Nat}{T:Nat->Bool}{v:Value}{w w' w0:World}
structure SF where
 p: Value->World->Prop
 st:∀ {v:Value} {w w':World},p v w->Ext w w'->p v w'
def SF.bk{cs:List Value}(h:Blk w b t cs): SF:=⟨λv _=>v=.agg cs.toArray,λh _=>h⟩
def SF.eq(c:Value): SF:=⟨λv _=>v=c,λh _=>h⟩
def Jjh(o:Oper)(k:Nat): Bool:=o.after.any λe=>Region.binds .any e && e.on == k
def accB(l:List Oper): Bool:=(List.range l.length).all λi=>match nth l i with
 | some o=>o.after.all λe=>!Region.binds .any e || Nat.blt e.on i
 | none=>true
def slM(vs:Nat->Value)(al:AL): List Nat->Nat->AL
 | [],_=>al
 | d::r,i=>(d,vs i)::slM vs al r (i+1)
theorem Kx{vs:Nat->Value}{al:AL}{t:Nat}: ∀ {ds:List Nat} {i:Nat},t ∉ ds->lk (slM vs al ds i) t=lk al t
 | [],_,_=>rfl
 | d::r,i,h=>by
  unfold slM;rw[Yy _ _ (λe=>h (by grind))];exact Kx λh'=>h (List.mem_cons_of_mem _ h')
theorem Ul{vs:Nat->Value}{al:AL}: ∀ {ds:List Nat} {i j:Nat},ds.Nodup->j<ds.length->lk (slM vs al ds i) (ds.getD j 0)=some (vs (i+j))
 | [],_,_,_,h=>by simp at h
 | d::r,i,0,_,_=>by unfold slM;simp[Kz]
 | d::r,i,j+1,hn,hj=>by
  have hn':=List.nodup_cons.1 hn;have hj':j<r.length:=by simpa using hj
  unfold slM;have e:(d::r).getD (j+1) 0=r.getD j 0:=by simp
  rw[e];have hm:r.getD j 0∈r:=by grind
  rw[Yy _ _ (λe=>hn'.1 (by rw[e];exact hm)),Ul hn'.2 hj'];congr 2;omega
theorem mem_getD(h:t∈ds): ∃ j,j<ds.length/\ds.getD j 0=t:=by
 obtain⟨j,u,e⟩:=List.getElem_of_mem h;exact⟨j,u,by grind⟩
section
variable {P:Program} {n:Nat} {al:AL} {w:World} {Q:Exit->Act->World->Prop} {ops:Array Oper}
def toM(G:Act->World->Prop): Exit->Act->World->Prop
 | .normal,a,w=>G a w
 | _,_,_=>False
theorem Jwv{o:Oper}{G:Act->World->Prop}(ho:ops[i]?=some o)(h:WL P n ops (toM G) [o] al w): ∀ a,Fr n al a->wpOp P ops (QF Q) i G a w:=λa D=>by
 have u:=h a D;unfold wpList at u;unfold wpOp;simp only[ho];have y:¬ LetsOut (toM G):=by rintro⟨a,w,h⟩;exact h
 split
 .rename_i hw;simp only[hw,if_true]at u;rcases u with u|⟨_,u⟩
  .left
   refine Oper.wp_mono (K:=wpList P ops (toM G) []) (λJ w' F=>F) ?_;unfold Oper.wp at u ⊢;grind [Yx,toM]
  exact absurd u y
 rename_i hw;simp only[hw]at u;exact u
def PM(n:Nat)(al:AL)(w:World)(d:Nat)(F:SF)(a:Act)(w':World): Prop:=∃ v,Fr n ((d,v)::al) a/\Ext w w'/\F.p v w'
theorem Vx{F:SF}(hx:Ext w w')(h:F.p v w'): QX n (toM (PM n al w d F)) .normal ((d,v)::al) w':=λa u=>⟨v,u,hx,h⟩
def fiM(Fs:List SF)(k:Nat)(v:Value)(w:World): Prop:=(Fs.getD k ⟨λ_ _=>True,λ_ _=>trivial⟩).p v w
theorem fiM.ext{Fs:List SF}{w:World}(h:fiM Fs k v w)(hx:Ext w w'): fiM Fs k v w':=SF.st _ h hx
def OpM(P:Program)(n:Nat)(ops:Array Oper)(al:AL)(w0:World)(ds:List Nat)(Fs:List SF)(i:Nat)(o:Oper): Prop :=
 ∀ vs w1,Ext w0 w1->(∀ k,Jjh o k=true->fiM Fs k (vs k) w1)->WL P n ops (toM (PM n (slM vs al ds 0) w1 (ds.getD i 0) (Fs.getD i ⟨λ_ _=>True,λ_ _=>trivial⟩))) [o] (slM vs al ds 0) w1
def GoM(P:Program)(n:Nat)(ops:Array Oper)(al:AL)(w0:World)(ds:List Nat)(Fs:List SF): Nat->Nat->List Oper->Prop
 | 0,_,_=>True
 | _+1,_,[]=>True
 | m+1,i,o::r=>OpM P n ops al w0 ds Fs i o/\GoM P n ops al w0 ds Fs m (i+1) r
theorem GoM.get{w0:World}{ds:List Nat}{Fs:List SF}: ∀ {l:List Oper} {m s i:Nat} {o:Oper},GoM P n ops al w0 ds Fs m s l->i<m->l[i]?=some o->OpM P n ops al w0 ds Fs (s+i) o
 | [],_,_,_,_,_,_,h=>by simp at h
 | x::r,0,_,_,_,_,h0,_=>by omega
 | x::r,m+1,s,0,o,h,_,e=>by
  simp only[List.getElem?_cons_zero,Option.some.injEq]at e;subst e;exact h.1
 | x::r,m+1,s,i+1,o,h,h0,e=>by
  have:=GoM.get h.2 (by omega:i<m) (by simpa using e);grind
def ndB: List Nat->Bool
 | []=>true
 | d::r=>!(r.any λx=>Nat.beq d x) && ndB r
theorem Im: ∀ {ds:List Nat},ndB ds=true->ds.Nodup
 | [],_=>List.nodup_nil
 | d::r,h=>by
  simp only[ndB,Bool.and_eq_true,Bool.not_eq_true']at h;refine List.nodup_cons.2 ⟨λhm=>?_,Im h.2⟩;have:=List.any_eq_false.1 h.1 d hm;simp at this
def behB(ops:Array Oper)(F m q:Nat): Bool:=(List.range ops.size).all λi=>Nat.blt i m || (List.range m).all λj=>Nat.beq j q || Vk ops F i j
theorem Jmx(m k i:Nat): (lst m k)[i]?=if i<m then some (Nat.blt i k) else none:=by grind [lst]
theorem Qjm{m q F fuel':Nat}{Fs:List SF}(hml:m<=l.length)(hacc:accB l=true)(hbeh:behB l.toArray F m q=true)(hnd:ndB ds=true)(hlen:ds.length=m)(hfree:∀ d∈ds,lk al d=none)(hop:GoM P n l.toArray al w0 ds Fs m 0 l)(Zx:∀ vs w1,Ext w0 w1->(∀ k,k<m->fiM Fs k (vs k) w1)->WH P n l.toArray Q T fuel' (lst l.length m) (slM vs al ds 0) w1)(hend2:q<m->∀ vs w1,Ext w0 w1->(∀ k,k<m->k≠q->fiM Fs k (vs k) w1)->WH P n l.toArray Q T (fuel'+1) ((lst l.length m).setIfInBounds q false) (slM vs al ds 0) w1):
  ∀(us:List Nat) (listed:Array Bool) (a:Act) (w:World),us.Nodup->(∀ k,k<m->(listed.getD k true=false↔k∈us))->(∀ k,m<=k->k<l.length->listed.getD k true=false)->(∀ k∈us,k<m)->listed.size=l.length->Closed l.toArray listed->Fr n al a->Ext w0 w ->
   (∀ k,k<m->k ∉ us->fiM Fs k (a.tmps.getD (ds.getD k 0) undef) w)->Zd P l.toArray Q T (us.length+fuel') listed a w:=by
 have hN:=Im hnd;have J:∀ a:Act,Fr n al a->Fr n (slM (λj=>a.tmps.getD (ds.getD j 0) undef) al ds 0) a:=λa ha=>⟨ha.size,ha.defers,λt v h=>by
  by_cases hm:t∈ds
  .obtain⟨j,hj,e⟩:=mem_getD hm;rw[<-e,Ul hN hj]at h;grind
  rw[Kx hm]at h;exact ha.has t v h⟩
 intro us;generalize hL:us.length=L
 induction L generalizing us with
 | zero=>
  intro listed a w hu U a4 a1 aa Z ha hx hf;have ae:us=[]:=List.length_eq_zero_iff.1 hL;subst ae;have e:listed=lst l.length m:=by
   refine Array.ext_getElem? λi=>?_;rw[Jmx];by_cases hi:i<l.length
   .rw[if_pos hi];have G:i<listed.size:=om
    by_cases a3:i<m
    .have O:=U i a3;have D:listed.getD i true=true:=by grind
     simp[G]at D;simp[G,D,Nat.blt];omega
    have D:=a4 i om hi;simp[G]at D;have h3:Nat.blt i m=false:=by
     cases hh:Nat.blt i m with
     | false=>rfl
     | true=>exact absurd (show i+1<=m by simpa [Nat.blt] using hh) om
    simp[G,D,h3]
   repeat grind
  rw[Nat.zero_add,e];rw[e]at Z;exact Zx _ w hx (λk hk=>hf k hk (by simp)) Z a (J a ha)
 | succ L ih=>
  intro listed a w hu U a4 a1 aa Z ha hx hf;rw[show L+1+fuel'=(L+fuel')+1 by omega];have a7:us≠[]:=by grind
  by_cases hq:us=[q]
  .have ac:q<m:=a1 q (by rw[hq];simp);have an:L=0:=by grind
   have e:listed=(lst l.length m).setIfInBounds q false:=by
    refine Array.ext_getElem? λi=>?_;by_cases hqi:q=i
    .subst hqi;have O:=(U q ac).2 (by rw[hq];simp);have D:q<listed.size:=om
     simp[D]at O;grind [lst]
    rw[Array.getElem?_setIfInBounds_ne hqi,Jmx];by_cases hi:i<l.length
    .rw[if_pos hi];have G:i<listed.size:=om
     by_cases a3:i<m
     .have O:=U i a3;have D:listed.getD i true=true:=by grind
      simp[G]at D;simp[G,D,Nat.blt];omega
     have D:=a4 i om hi;simp[G]at D;have h3:Nat.blt i m=false:=by
      cases hh:Nat.blt i m with
      | false=>rfl
      | true=>exact absurd (show i+1<=m by simpa [Nat.blt] using hh) om
     simp[G,D,h3]
    repeat grind
   rw[an,e,show 0+fuel'+1=fuel'+1 by omega];rw[e]at Z;exact hend2 ac _ w hx (λk hk ax=>hf k hk (by grind)) Z a (J a ha)
  obtain⟨k0,aj,aq⟩:∃ k,k∈us/\k≠q:=by
   refine Classical.byContradiction λaw=>?_;have J:∀ k∈us,k=q:=by grind
   apply hq
   match us,hu,a7,J with
   | [x],_,_,h=>rw[h x (by simp)]
   | x::y::r,hu,_,h=>
    have O:=h x (by simp);have D:=h y (by simp);grind
  refine⟨λhr=>?_,λi hi=>?_⟩
  .exfalso
   obtain⟨k,hk,ap⟩:∃ k,k∈us/\∀ j,j<k->j ∉ us:=by
    have:∀ s k,k∈us->k<s->∃ k,k∈us/\∀ j,j<k->j ∉ us:=by
     intro s;induction s with
     | zero=>intro k _ h;omega
     | succ s ihs=>
      grind
    grind
   have a8:=a1 k hk;have ai:=(U k a8).2 hk;have a9:k<l.length:=om
   have av:k∈Region.ready .any l.toArray listed:=by
    refine mem_ready.2 ⟨ai,l[k],by simp[a9],λe he hb=>?_⟩;have O:=List.all_eq_true.1 hacc k (List.mem_range.2 a9);have hn:nth l k=some l[k]:=by rw[Xq];simp[a9]
    rw[hn]at O;simp only[Array.all_eq_true_iff_forall_mem,Bool.or_eq_true,Bool.not_eq_true']at O;have D:=(O e he).resolve_left (by rw[hb];simp);have h3:e.on<k:=by(have:e.on+1<=k:=by simpa [Nat.blt] using D);(omega)
    grind
   grind
  obtain⟨af,o,ho,ar⟩:=mem_ready.1 hi;have ad:l[i]?=some o:=by simpa using ho
  have ak:i<l.length:=by grind
  have a5:i<m:=by
   rcases Nat.lt_or_ge i m with h|h
   .exact h
   exfalso
   have O:=List.all_eq_true.1 hbeh i (List.mem_range.2 (by simpa using ak));simp only[Bool.or_eq_true]at O;have D:=O.resolve_left (by
    intro hh;have:i+1<=m:=by simpa [Nat.blt] using hh
    omega)
   have ao:=List.all_eq_true.1 D k0 (List.mem_range.2 (a1 k0 aj));simp only[Bool.or_eq_true]at ao;grind [Nat.eq_of_beq_eq_true,Gn,Gm]
  have a3:=(U i a5).1 af;have hO:=GoM.get hop a5 ad;rw[Nat.zero_add]at hO;have hW:=hO (λj=>a.tmps.getD (ds.getD j 0) undef) w hx λk hk=>by
   unfold Jjh at hk;grind
  have O:=Jwv (Q:=Q) (ops:=l.toArray) (by simpa using ad) hW a (J a ha);refine wpOp_mono (λa' w' h=>?_) O;obtain⟨v,a2,a6,hF⟩:=h;have am:lk ((ds.getD i 0,v)::slM (λj=>a.tmps.getD (ds.getD j 0) undef) al ds 0) (ds.getD i 0)=some v:=Kz _ _ _;have b2:ds.getD i 0∈ds:=by grind
  refine⟨λ_=>a6,ih (us.erase i) (by grind) _ a' w' (hu.erase i) (λk a8=>?_) (λk O D=>?_) (λk hk=>a1 k (hu.mem_erase_iff.1 hk).2) (by simp[aa]) (Z.step hi) ?_ (hx.trans a6) λk hk ay=>?_⟩
  .by_cases e:i=k
   .subst e;have:i<listed.size:=om
    simp only[hu.mem_erase_iff];simp[this]
   rw[getD_set_ne true e,U k a8,hu.mem_erase_iff];grind
  .rw[getD_set_ne true om];exact a4 k O D
  .refine⟨a2.size,a2.defers,λt u au=>?_⟩;have hm:t ∉ ds:=by grind
   exact a2.has t u (by grind [Yy,Kx])
  by_cases e:k=i
  .subst e;rw[a2.has _ _ am];exact hF
  have ah:k ∉ us:=by grind
  have a7:ds.getD i 0≠ds.getD k 0:=λh=>by
   have O:=Ul (vs:=λj=>Value.int .i64 (j:Int)) (al:=[]) (i:=0) hN (j:=i) om;have D:=Ul (vs:=λj=>Value.int .i64 (j:Int)) (al:=[]) (i:=0) hN (j:=k) om;grind
  have h3:=a2.has (ds.getD k 0) _ (by rw[Yy _ _ a7];exact Ul hN om);simp only[Nat.zero_add]at h3;rw[h3];exact(hf k hk ah).ext a6
theorem hmkq(m q F fuel':Nat)(ds:List Nat)(Fs:List SF)(hc:(accB l && behB l.toArray F m q && ndB ds && Nat.beq ds.length m && Nat.beq (m+fuel') l.length)=true)(hfree:(ds.all λd=>(lk al d).isNone)=true)(hop:GoM P n l.toArray al w ds Fs m 0 l)(Zx:∀ vs w1,Ext w w1->(∀ k,(hk:k<m:=by decide)->fiM Fs k (vs k) w1)->WH P n l.toArray Q T fuel' (lst l.length m) (slM vs al ds 0) w1)(hend2:q<m->∀ vs w1,Ext w w1->(∀ k,(hk:k<m:=by decide)->(hq:k≠q:=by decide)->fiM Fs k (vs k) w1)->WH P n l.toArray Q T (fuel'+1) ((lst l.length m).setIfInBounds q false) (slM vs al ds 0) w1): WH P n l.toArray Q T l.toArray.size (Array.replicate l.toArray.size false) al w:=λy a O=>by
 simp only[Bool.and_eq_true]at hc;obtain⟨⟨⟨⟨h2,h3⟩,h4⟩,Z⟩,U⟩:=hc;have G:ds.length=m:=Nat.eq_of_beq_eq_true Z;have D:m+fuel'=l.length:=Nat.eq_of_beq_eq_true U;have:=Qjm (Q:=Q) (T:=T) (F:=F) (q:=q) (fuel':=fuel') om h2 h3 h4 G (λd J=>by simpa using List.all_eq_true.1 hfree d J) hop Zx hend2 (List.range m) (Array.replicate l.length false) a w List.nodup_range (λk hk=>?_) (λk _ h=>by simp[h]) (λk hk=>List.mem_range.1 hk) (by simp) (by simpa using y) O (Ext.refl w) λk hk u=>absurd (List.mem_range.2 hk) u
 .grind
 have:k<l.length:=om
 simp[this,hk]
theorem hmk(m F fuel':Nat)(ds:List Nat)(Fs:List SF)(hc:(accB l && behB l.toArray F m m && ndB ds && Nat.beq ds.length m && Nat.beq (m+fuel') l.length)=true)(hfree:(ds.all λd=>(lk al d).isNone)=true)(hop:GoM P n l.toArray al w ds Fs m 0 l)(Zx:∀ vs w1,Ext w w1->(∀ k,(hk:k<m:=by decide)->fiM Fs k (vs k) w1)->WH P n l.toArray Q T fuel' (lst l.length m) (slM vs al ds 0) w1): WH P n l.toArray Q T l.toArray.size (Array.replicate l.toArray.size false) al w :=
 hmkq m m F fuel' ds Fs hc hfree hop Zx λh=>absurd h (Nat.lt_irrefl m)
end
end Go.Wk
namespace Go.Wk
open Go.RowKit
variable {ds r us:List Nat}{l:List Oper}{Fs:List SF}{fuel i j k:Nat}{w0:World}
section
variable {P:Program} {n:Nat} {al:AL} {w:World} {Q:Exit->Act->World->Prop} {ops:Array Oper}
def stgB(l:List Oper)(F:Nat)(st st':Array Bool)(us:List Nat): Bool :=
 Nat.beq st.size l.length && Nat.beq st'.size l.length && ndB us && (us.all λk=>Nat.blt k l.length && !(st.getD k true)) &&
 (us.all λi=>match nth l i with
  | some o=>o.after.all λe=>!Region.binds .any e || (Nat.blt e.on l.length && st.getD e.on true) || (us.any (λj=>Nat.beq j e.on) && Nat.blt e.on i)
  | none=>false) &&
 ((List.range l.length).all λi=>st.getD i true || us.any (λj=>Nat.beq j i) || us.all λj=>Vk l.toArray F i j) &&
 ((List.range l.length).all λi=>st'.getD i true == (st.getD i true || us.any λj=>Nat.beq j i))
def OpS(P:Program)(n:Nat)(ops:Array Oper)(al:AL)(w0:World)(us ds:List Nat)(Fs:List SF)(i:Nat)(o:Oper): Prop :=
 ∀ vs w1,Ext w0 w1->(∀ j,j<us.length->Jjh o (us.getD j 0)=true->fiM Fs j (vs j) w1)->WL P n ops (toM (PM n (slM vs al ds 0) w1 (ds.getD i 0) (Fs.getD i ⟨λ_ _=>True,λ_ _=>trivial⟩))) [o] (slM vs al ds 0) w1
def GoS(P:Program)(n:Nat)(l:List Oper)(al:AL)(w0:World)(us ds:List Nat)(Fs:List SF): Nat->List Nat->Prop
 | _,[]=>True
 | i,k::r=>(∀ o,nth l k=some o->OpS P n l.toArray al w0 us ds Fs i o)/\GoS P n l al w0 us ds Fs (i+1) r
theorem GoS.get{w0:World}{l:List Oper}{us ds:List Nat}{Fs:List SF}: ∀ {r:List Nat} {s i:Nat} {o:Oper},GoS P n l al w0 us ds Fs s r->i<r.length->nth l (r.getD i 0)=some o->OpS P n l.toArray al w0 us ds Fs (s+i) o
 | [],_,_,_,_,h,_=>by simp at h
 | x::r,s,0,o,h,_,e=>h.1 o e
 | x::r,s,i+1,o,h,h0,e=>by
  have:=GoS.get h.2 (by simpa using h0:i<r.length) (by simpa using e);rwa [show s+(i+1)=s+1+i by omega]
theorem gsc{o:Oper}(h:∀ vs w1,Ext w0 w1->(∀ j,(hj:j<us.length:=by decide)->(hk:Jjh o (us.getD j 0)=true:=by kernel_rfl)->fiM Fs j (vs j) w1)->WL P n l.toArray (toM (PM n (slM vs al ds 0) w1 (ds.getD i 0) (Fs.getD i ⟨λ_ _=>True,λ_ _=>trivial⟩))) [o] (slM vs al ds 0) w1)(h2:GoS P n l al w0 us ds Fs (i+1) r)(ho:nth l k=some o:=by rfl): GoS P n l al w0 us ds Fs i (k::r):=⟨λy u=>by rw[ho]at u;injection u with u;subst u;exact h,h2⟩
theorem gse: GoS P n l al w0 us ds Fs i []:=trivial
theorem Jqn(h:us.Nodup)(hi:i<us.length)(hj:j<us.length)(e:us.getD i 0=us.getD j 0): i=j:=by grind [List.getElem?_eq_getElem,List.pairwise_iff_getElem.1,Nat.lt_trichotomy]
theorem hmkS{T:Nat->Bool}(F fuel':Nat)(st st':Array Bool)(us ds:List Nat)(Fs:List SF)(hc:(stgB l F st st' us && ndB ds && Nat.beq ds.length us.length && Nat.beq (us.length+fuel') fuel)=true)(hfree:(ds.all λd=>(lk al d).isNone)=true)(hop:GoS P n l al w us ds Fs 0 us)(Zx:∀ vs w1,Ext w w1->(∀ j,(hj:j<us.length:=by decide)->fiM Fs j (vs j) w1)->WH P n l.toArray Q T fuel' st' (slM vs al ds 0) w1): WH P n l.toArray Q T fuel st al w:=λa2 a ha=>by
 simp only[Bool.and_eq_true]at hc;obtain⟨⟨⟨h0,h4⟩,h5⟩,h6⟩:=hc;unfold stgB at h0;simp only[Bool.and_eq_true]at h0;obtain⟨⟨⟨⟨⟨⟨c1,c2⟩,c3⟩,c4⟩,c5⟩,c6⟩,c7⟩:=h0;have aq:st.size=l.length:=Nat.eq_of_beq_eq_true c1;have b5:st'.size=l.length:=Nat.eq_of_beq_eq_true c2;have hU:=Im c3;have hN:=Im h4;have hl:ds.length=us.length:=Nat.eq_of_beq_eq_true h5;have b2:us.length+fuel'=fuel:=Nat.eq_of_beq_eq_true h6;have b3:∀ d∈ds,lk al d=none:=λd hd=>by simpa using List.all_eq_true.1 hfree d hd
 have a1:∀ j,j<us.length->us.getD j 0<l.length/\st.getD (us.getD j 0) true=false:=λj hj=>by
  have U:us.getD j 0∈us:=by rw[List.getD_eq_getElem?_getD,List.getElem?_eq_getElem hj];exact List.getElem_mem _
  have:=List.all_eq_true.1 c4 _ U;simp only[Bool.and_eq_true,Bool.not_eq_true']at this;exact⟨by(have h:us.getD j 0+1<=l.length:=by simpa [Nat.blt] using this.1);omega,this.2⟩
 have a5:∀ k,(us.any λj=>Nat.beq j k)=true->∃ j,j<us.length/\us.getD j 0=k:=λk hk=>by
  rw[List.any_eq_true]at hk;obtain⟨u,hu,e⟩:=hk;have e:=Nat.eq_of_beq_eq_true e;subst e;exact mem_getD hu
 have a7:∀ a:Act,Fr n al a->Fr n (slM (λj=>a.tmps.getD (ds.getD j 0) undef) al ds 0) a:=λa ha=>⟨ha.size,ha.defers,λt v h=>by
  by_cases U:t∈ds
  .obtain⟨j,hj,e⟩:=mem_getD U;rw[<-e,Ul hN hj]at h;simp only[Nat.zero_add,Option.some.injEq]at h;rw[<-e];exact h
  rw[Kx U]at h;exact ha.has t v h⟩
 suffices key:∀(L:Nat) (ps:List Nat) (y:Array Bool) (a:Act) (w1:World),ps.length=L->ps.Nodup->(∀ j∈ps,j<us.length)->(∀ j,j<us.length->(y.getD (us.getD j 0) true=false↔j∈ps))->(∀ k,k<l.length->(∀ j,j<us.length->us.getD j 0≠k)->y.getD k true=st.getD k true)->y.size=l.length->Closed l.toArray y->Fr n al a->Ext w w1 ->
   (∀ j,j<us.length->j ∉ ps->fiM Fs j (a.tmps.getD (ds.getD j 0) undef) w1)->Zd P l.toArray Q T (L+fuel') y a w1 by
  have:=key us.length (List.range us.length) st a w List.length_range List.nodup_range (λj hj=>List.mem_range.1 hj) (λj hj=>⟨λ_=>List.mem_range.2 hj,λ_=>(a1 j hj).2⟩) (λk _ _=>rfl) aq a2 ha (Ext.refl w) λj hj h=>absurd (List.mem_range.2 hj) h;rwa [b2]at this
 intro L;induction L with
 | zero=>
  intro ps y a w1 hL hu a3 J a6 ae a2 ha hx hf;have aj:ps=[]:=List.length_eq_zero_iff.1 hL;subst aj;have e:y=st':=by
   refine Array.ext_getElem? λi=>?_;by_cases hi:i<l.length
   .have h7:=List.all_eq_true.1 c7 i (List.mem_range.2 hi);rw[beq_iff_eq]at h7;have h8:y.getD i true=st'.getD i true:=by
     rw[h7];by_cases U:∃ j,j<us.length/\us.getD j 0=i
     .obtain⟨j,hj,e⟩:=U;have D:=J j hj;rw[e]at D;have G:y.getD i true=true:=by
       cases hh:y.getD i true with
       | true=>rfl
       | false=>exact absurd (D.1 hh) (by simp)
      rw[G];symm
      rw[Bool.or_eq_true];right
      rw[List.any_eq_true];refine⟨us.getD j 0,?_,by rw[e];simp⟩;rw[List.getD_eq_getElem?_getD,List.getElem?_eq_getElem hj];exact List.getElem_mem _
     have D:∀ j,j<us.length->us.getD j 0≠i:=λj hj e=>U ⟨j,hj,e⟩;rw[a6 i hi D];have G:(us.any λj=>Nat.beq j i)=false:=by
      cases hh:us.any λj=>Nat.beq j i with
      | false=>rfl
      | true=>exact absurd (a5 i hh) U
     rw[G,Bool.or_false]
    have h9:i<y.size:=om
    have ap:i<st'.size:=om
    simp[h9,ap]at h8;simp[h9,ap,h8]
   rw[Array.getElem?_eq_none om,Array.getElem?_eq_none om]
  rw[Nat.zero_add,e];rw[e]at a2;exact Zx _ w1 hx (λj hj=>hf j hj (by simp)) a2 a (a7 a ha)
 | succ L ih=>
  intro ps y a w1 hL hu a3 J a6 ae a2 ha hx hf;rw[show L+1+fuel'=(L+fuel')+1 by omega];have ad:ps≠[]:=λe=>by rw[e]at hL;cases hL
  obtain⟨p0,a4⟩:∃ p,p∈ps:=by
   cases ps with
   | nil=>exact absurd rfl ad
   | cons p r=>exact⟨p,List.mem_cons_self⟩
  refine⟨λhr=>?_,λi hi=>?_⟩
  .exfalso
   obtain⟨p,hp,ak⟩:∃ p,p∈ps/\∀ q∈ps,us.getD p 0<=us.getD q 0:=by
    have:∀ s p,p∈ps->us.getD p 0<s->∃ p,p∈ps/\∀ q∈ps,us.getD p 0<=us.getD q 0:=by
     intro s;induction s with
     | zero=>intro p _ h;omega
     | succ s ihs=>
      intro p hp ah;by_cases h:∃ q,q∈ps/\us.getD q 0<us.getD p 0
      .obtain⟨q,hq,b6⟩:=h;exact ihs q hq om
      exact⟨p,hp,λq hq=>by
       rcases Nat.lt_or_ge (us.getD q 0) (us.getD p 0) with h'|h'
       .exact absurd ⟨q,hq,h'⟩ h
       exact h'⟩
    exact this (us.getD p0 0+1) p0 a4 om
   have O:=a3 p hp;obtain⟨b7,_⟩:=a1 p O;have av:=(J p O).2 hp;have af:us.getD p 0∈Region.ready .any l.toArray y:=by
    refine mem_ready.2 ⟨av,l[us.getD p 0],by simp,λe he hb=>?_⟩;have U:us.getD p 0∈us:=by rw[List.getD_eq_getElem?_getD,List.getElem?_eq_getElem O];exact List.getElem_mem _
    have D:=List.all_eq_true.1 c5 _ U;have hn:nth l (us.getD p 0)=some l[us.getD p 0]:=by rw[Xq];simp
    rw[hn]at D;simp only[Array.all_eq_true_iff_forall_mem,Bool.or_eq_true,Bool.not_eq_true',Bool.and_eq_true]at D;have G:=D e he;rw[hb]at G;have h5:y.getD e.on true=true/\e.on<y.size:=by
     rcases G with(G|⟨h3,G⟩)|⟨G,h3⟩
     .cases G
     .have ao:e.on<l.length:=by(have:e.on+1<=l.length:=by simpa [Nat.blt] using h3);omega
      refine⟨?_,om⟩;by_cases hm2:∃ j,j<us.length/\us.getD j 0=e.on
      .obtain⟨j,hj,e2⟩:=hm2;have:=(a1 j hj).2;rw[e2,G]at this;cases this
      rw[a6 _ ao λj hj e2=>hm2 ⟨j,hj,e2⟩];exact G
     obtain⟨j,hj,e2⟩:=a5 _ G;have ao:e.on<us.getD p 0:=by(have:e.on+1<=us.getD p 0:=by simpa [Nat.blt] using h3);(omega)
     refine⟨?_,om⟩;cases hh:y.getD e.on true with
     | true=>rfl
     | false=>
      rw[<-e2]at hh;have h6:=(J j hj).1 hh;have:=ak j h6;omega
    have h6:=h5.2;have h7:=h5.1;simp[h6]at h7 ⊢;exact h7
   rw[hr]at af;cases af
  obtain⟨a9,o,ho,an⟩:=mem_ready.1 hi;have ac:l[i]?=some o:=by simpa using ho
  have am:i<l.length:=(List.getElem?_eq_some_iff.1 ac).1;obtain⟨p,O,ar⟩:∃ j,j<us.length/\us.getD j 0=i:=by
   refine Classical.byContradiction λai=>?_;have D:=List.all_eq_true.1 c6 i (List.mem_range.2 am);simp only[Bool.or_eq_true]at D;have G:=a6 i am λj hj e=>ai ⟨j,hj,e⟩;rcases D with(D|D)|D
   .rw[D]at G;rw[G]at a9;cases a9
   .exact ai (a5 i D)
   have U:us.getD p0 0∈us:=by rw[List.getD_eq_getElem?_getD,List.getElem?_eq_getElem (a3 p0 a4)];exact List.getElem_mem _
   have h3:=List.all_eq_true.1 D _ U;have h4:=Gn a2 F i (us.getD p0 0) o ho (Gm ho hi) h3;have h5:=(J p0 (a3 p0 a4)).2 a4;have h6:us.getD p0 0<y.size:=by have:=(a1 p0 (a3 p0 a4)).1;omega
   generalize us.getD p0 0=k0 at h4 h5 h6
   simp[h6]at h4 h5;rw[h4]at h5;cases h5
  subst ar;have ah:=(J p O).1 a9;have hO:=GoS.get hop O (by rw[Xq];exact ac);rw[Nat.zero_add]at hO;have hW:=hO (λj=>a.tmps.getD (ds.getD j 0) undef) w1 hx λj hj hk=>by
   unfold Jjh at hk;rw[Array.any_eq_true']at hk;obtain⟨e,he,D⟩:=hk;simp only[Bool.and_eq_true,beq_iff_eq]at D;have G:=an e he D.1;rw[D.2]at G;have h3:us.getD j 0<y.size:=by have:=(a1 j hj).1;omega
   refine hf j hj λaw=>?_;have h4:=(J j hj).2 aw;generalize us.getD j 0=k0 at G h3 h4
   simp[h3]at G h4;rw[G]at h4;cases h4
  have D:=Jwv (Q:=Q) (ops:=l.toArray) (by simpa using ac) hW a (a7 a ha);refine wpOp_mono (λa' w' h=>?_) D;obtain⟨v,Z,a8,hF⟩:=h;have b4:lk ((ds.getD p 0,v)::slM (λj=>a.tmps.getD (ds.getD j 0) undef) al ds 0) (ds.getD p 0)=some v:=Kz _ _ _;have ay:ds.getD p 0∈ds:=by rw[List.getD_eq_getElem?_getD,List.getElem?_eq_getElem om];exact List.getElem_mem _
  refine⟨λ_=>a8,ih (ps.erase p) _ a' w' (by rw[List.length_erase_of_mem ah,hL];omega) (hu.erase p) (λj hj=>a3 j (hu.mem_erase_iff.1 hj).2) (λj hj=>?_) (λk D G=>?_) (by simp[ae]) (a2.step hi) ?_ (hx.trans a8) λj hj ax=>?_⟩
  .by_cases e:p=j
   .subst e;have:us.getD p 0<y.size:=om
    simp only[hu.mem_erase_iff];simp
   rw[getD_set_ne true (λe2=>e (Jqn hU O hj e2)),J j hj,hu.mem_erase_iff];exact⟨λh=>⟨λh'=>e h'.symm,h⟩,λh=>h.2⟩
  .rw[getD_set_ne true (G p O)];exact a6 k D G
  .refine⟨Z.size,Z.defers,λt u aa=>?_⟩;have U:t ∉ ds:=λU=>by rw[b3 t U]at aa;cases aa
   exact Z.has t u (by rw[Yy _ _ (λe=>U (by rw[<-e];exact ay)),Kx U];exact aa)
  by_cases e:j=p
  .subst e;rw[Z.has _ _ b4];exact hF
  have au:j ∉ ps:=λh=>ax (hu.mem_erase_iff.2 ⟨e,h⟩);have ad:ds.getD p 0≠ds.getD j 0:=λh=>e (Jqn hN om om h.symm);have h3:=Z.has (ds.getD j 0) _ (by rw[Yy _ _ ad];exact Ul hN om);simp only[Nat.zero_add]at h3;rw[h3];exact(hf j hj au).ext a8
end
end Go.Wk
namespace Go.Wk
open Go.RowKit
section
variable {P:Program} {n:Nat} {al:AL} {w:World} {Q:Exit->Act->World->Prop} {ops:Array Oper}
def stgQ(l:List Oper)(F q:Nat)(st st':Array Bool)(us:List Nat): Bool :=
 Nat.beq st.size l.length && Nat.beq st'.size l.length && ndB us && (us.all λk=>Nat.blt k l.length && !(st.getD k true)) &&
 (us.all λi=>match nth l i with
  | some o=>o.after.all λe=>!Region.binds .any e || (Nat.blt e.on l.length && st.getD e.on true) || (us.any (λj=>Nat.beq j e.on) && Nat.blt e.on i)
  | none=>false) &&
 ((List.range l.length).all λi=>st.getD i true || us.any (λj=>Nat.beq j i) || us.all λj=>Nat.beq j q || Vk l.toArray F i j) &&
 ((List.range l.length).all λi=>st'.getD i true == (st.getD i true || us.any λj=>Nat.beq j i))
theorem hmkSq{T:Nat->Bool}{l:List Oper}(F q fuel':Nat)(st st':Array Bool)(us ds:List Nat)(Fs:List SF){fuel:Nat}(hc:(stgQ l F q st st' us && ndB ds && Nat.beq ds.length us.length && Nat.beq (us.length+fuel') fuel)=true)(hfree:(ds.all λd=>(lk al d).isNone)=true)(hop:GoS P n l al w us ds Fs 0 us)(Zx:∀ vs w1,Ext w w1->(∀ j,(hj:j<us.length:=by decide)->fiM Fs j (vs j) w1)->WH P n l.toArray Q T fuel' st' (slM vs al ds 0) w1)(hend2:q<l.length->∀ vs w1,Ext w w1->(∀ j,(hj:j<us.length:=by decide)->(hq:us.getD j 0≠q:=by decide)->fiM Fs j (vs j) w1)->WH P n l.toArray Q T (fuel'+1) (st'.setIfInBounds q false) (slM vs al ds 0) w1): WH P n l.toArray Q T fuel st al w:=λa2 a ha=>by
 simp only[Bool.and_eq_true]at hc;obtain⟨⟨⟨h0,h4⟩,h5⟩,h6⟩:=hc;unfold stgQ at h0;simp only[Bool.and_eq_true]at h0;obtain⟨⟨⟨⟨⟨⟨c1,c2⟩,c3⟩,c4⟩,c5⟩,c6⟩,c7⟩:=h0;have aw:st.size=l.length:=Nat.eq_of_beq_eq_true c1;have bb:st'.size=l.length:=Nat.eq_of_beq_eq_true c2;have hU:=Im c3;have hN:=Im h4;have hl:ds.length=us.length:=Nat.eq_of_beq_eq_true h5;have b7:us.length+fuel'=fuel:=Nat.eq_of_beq_eq_true h6;have b8:∀ d∈ds,lk al d=none:=λd hd=>by simpa using List.all_eq_true.1 hfree d hd
 have Z:∀ j,j<us.length->us.getD j 0<l.length/\st.getD (us.getD j 0) true=false:=λj hj=>by
  have U:us.getD j 0∈us:=by rw[List.getD_eq_getElem?_getD,List.getElem?_eq_getElem hj];exact List.getElem_mem _
  have:=List.all_eq_true.1 c4 _ U;simp only[Bool.and_eq_true,Bool.not_eq_true']at this;exact⟨by(have h:us.getD j 0+1<=l.length:=by simpa [Nat.blt] using this.1);omega,this.2⟩
 have a6:∀ k,(us.any λj=>Nat.beq j k)=true->∃ j,j<us.length/\us.getD j 0=k:=λk hk=>by
  rw[List.any_eq_true]at hk;obtain⟨u,hu,e⟩:=hk;have e:=Nat.eq_of_beq_eq_true e;subst e;exact mem_getD hu
 have a9:∀ a:Act,Fr n al a->Fr n (slM (λj=>a.tmps.getD (ds.getD j 0) undef) al ds 0) a:=λa ha=>⟨ha.size,ha.defers,λt v h=>by
  by_cases U:t∈ds
  .obtain⟨j,hj,e⟩:=mem_getD U;rw[<-e,Ul hN hj]at h;simp only[Nat.zero_add,Option.some.injEq]at h;rw[<-e];exact h
  rw[Kx U]at h;exact ha.has t v h⟩
 suffices key:∀(L:Nat) (ps:List Nat) (D:Array Bool) (a:Act) (w1:World),ps.length=L->ps.Nodup->(∀ j∈ps,j<us.length)->(∀ j,j<us.length->(D.getD (us.getD j 0) true=false↔j∈ps))->(∀ k,k<l.length->(∀ j,j<us.length->us.getD j 0≠k)->D.getD k true=st.getD k true)->D.size=l.length->Closed l.toArray D->Fr n al a->Ext w w1 ->
   (∀ j,j<us.length->j ∉ ps->fiM Fs j (a.tmps.getD (ds.getD j 0) undef) w1)->Zd P l.toArray Q T (L+fuel') D a w1 by
  have:=key us.length (List.range us.length) st a w List.length_range List.nodup_range (λj hj=>List.mem_range.1 hj) (λj hj=>⟨λ_=>List.mem_range.2 hj,λ_=>(Z j hj).2⟩) (λk _ _=>rfl) aw a2 ha (Ext.refl w) λj hj h=>absurd (List.mem_range.2 hj) h;rwa [b7]at this
 intro L;induction L with
 | zero=>
  intro ps D a w1 hL hu a1 O a7 ah a2 ha hx hf;have ap:ps=[]:=List.length_eq_zero_iff.1 hL;subst ap;have e:D=st':=by
   refine Array.ext_getElem? λi=>?_;by_cases hi:i<l.length
   .have h7:=List.all_eq_true.1 c7 i (List.mem_range.2 hi);rw[beq_iff_eq]at h7;have h8:D.getD i true=st'.getD i true:=by
     rw[h7];by_cases U:∃ j,j<us.length/\us.getD j 0=i
     .obtain⟨j,hj,e⟩:=U;have G:=O j hj;rw[e]at G;have J:D.getD i true=true:=by
       cases hh:D.getD i true with
       | true=>rfl
       | false=>exact absurd (G.1 hh) (by simp)
      rw[J];symm
      rw[Bool.or_eq_true];right
      rw[List.any_eq_true];refine⟨us.getD j 0,?_,by rw[e];simp⟩;rw[List.getD_eq_getElem?_getD,List.getElem?_eq_getElem hj];exact List.getElem_mem _
     have G:∀ j,j<us.length->us.getD j 0≠i:=λj hj e=>U ⟨j,hj,e⟩;rw[a7 i hi G];have J:(us.any λj=>Nat.beq j i)=false:=by
      cases hh:us.any λj=>Nat.beq j i with
      | false=>rfl
      | true=>exact absurd (a6 i hh) U
     rw[J,Bool.or_false]
    have h9:i<D.size:=om
    have a5:i<st'.size:=om
    simp[h9,a5]at h8;simp[h9,a5,h8]
   rw[Array.getElem?_eq_none om,Array.getElem?_eq_none om]
  rw[Nat.zero_add,e];rw[e]at a2;exact Zx _ w1 hx (λj hj=>hf j hj (by simp)) a2 a (a9 a ha)
 | succ L ih=>
  intro ps D a w1 hL hu a1 O a7 ah a2 ha hx hf;by_cases hq0:∀ p∈ps,us.getD p 0=q
  .have ba:L=0:=by
    rcases Nat.eq_zero_or_pos L with h|h
    .exact h
    exfalso
    obtain⟨x,y,r,rfl⟩:∃ x y r,ps=x::y::r:=by
     match ps,hL with
     | [],h'=>simp at h'
     | [x],h'=>simp at h';omega
     | x::y::r,_=>exact⟨x,y,r,rfl⟩
    have G:=hq0 x (by simp);have J:=hq0 y (by simp);have h3:=Jqn hU (a1 x (by simp)) (a1 y (by simp)) (by rw[G,J]);have:=(List.nodup_cons.1 hu).1;rw[h3]at this;exact this (by simp)
   subst ba;obtain⟨p,rfl⟩:∃ p,ps=[p]:=List.length_eq_one_iff.1 om;have aa:=hq0 p (by simp);have an:=a1 p (by simp);have aj:=(Z p an).1;rw[aa]at aj;have e:D=st'.setIfInBounds q false:=by
    refine Array.ext_getElem? λi=>?_;by_cases hi:i<l.length
    .have h7:=List.all_eq_true.1 c7 i (List.mem_range.2 hi);rw[beq_iff_eq]at h7;have h8:D.getD i true=(st'.setIfInBounds q false).getD i true:=by
      by_cases hiq:i=q
      .have G:=(O p an).2 (by simp);rw[aa]at G;rw[hiq,G];have:q<st'.size:=om
       simp[this]
      have a5:(st'.setIfInBounds q false).getD i true=st'.getD i true:=by
       have h9:i<st'.size:=om
       simp[h9,Ne.symm hiq]
      rw[a5,h7];by_cases U:∃ j,j<us.length/\us.getD j 0=i
      .obtain⟨j,hj,e⟩:=U;have G:=O j hj;rw[e]at G;have J:D.getD i true=true:=by
        cases hh:D.getD i true with
        | true=>rfl
        | false=>
         have:=List.mem_singleton.1 (G.1 hh);rw[this,aa]at e;exact absurd e.symm hiq
       rw[J];symm
       rw[Bool.or_eq_true];right
       rw[List.any_eq_true];refine⟨us.getD j 0,?_,by rw[e];simp⟩;rw[List.getD_eq_getElem?_getD,List.getElem?_eq_getElem hj];exact List.getElem_mem _
      have G:∀ j,j<us.length->us.getD j 0≠i:=λj hj e=>U ⟨j,hj,e⟩;rw[a7 i hi G];have J:(us.any λj=>Nat.beq j i)=false:=by
       cases hh:us.any λj=>Nat.beq j i with
       | false=>rfl
       | true=>exact absurd (a6 i hh) U
      rw[J,Bool.or_false]
     have h9:i<D.size:=om
     have a5:i<(st'.setIfInBounds q false).size:=by rw[Array.size_setIfInBounds];omega
     rw[Array.getElem?_eq_getElem h9,Array.getElem?_eq_getElem a5];rw[Array.getD,Array.getD,dif_pos h9,dif_pos a5]at h8;exact congrArg some h8
    rw[Array.getElem?_eq_none om,Array.getElem?_eq_none (by rw[Array.size_setIfInBounds];omega)]
   rw[show 0+1+fuel'=fuel'+1 by omega,e];rw[e]at a2;exact hend2 aj _ w1 hx (λj hj hq=>hf j hj (λh=>hq (by rw[List.mem_singleton.1 h];exact aa))) a2 a (a9 a ha)
  obtain⟨p0,a8,am⟩:∃ p,p∈ps/\us.getD p 0≠q:=by
   refine Classical.byContradiction λh=>hq0 λp hp=>Classical.byContradiction λJ=>h ⟨p,hp,J⟩
  rw[show L+1+fuel'=(L+fuel')+1 by omega];refine⟨λhr=>?_,λi hi=>?_⟩
  .exfalso
   obtain⟨p,hp,aq⟩:∃ p,p∈ps/\∀ q∈ps,us.getD p 0<=us.getD q 0:=by
    have:∀ s p,p∈ps->us.getD p 0<s->∃ p,p∈ps/\∀ q∈ps,us.getD p 0<=us.getD q 0:=by
     intro s;induction s with
     | zero=>intro p _ h;omega
     | succ s ihs=>
      intro p hp ak;by_cases h:∃ q,q∈ps/\us.getD q 0<us.getD p 0
      .obtain⟨q,hq,bc⟩:=h;exact ihs q hq om
      exact⟨p,hp,λq hq=>by
       rcases Nat.lt_or_ge (us.getD q 0) (us.getD p 0) with h'|h'
       .exact absurd ⟨q,hq,h'⟩ h
       exact h'⟩
    exact this (us.getD p0 0+1) p0 a8 om
   have a3:=a1 p hp;obtain⟨bd,_⟩:=Z p a3;have b3:=(O p a3).2 hp;have ai:us.getD p 0∈Region.ready .any l.toArray D:=by
    refine mem_ready.2 ⟨b3,l[us.getD p 0],by simp,λe he hb=>?_⟩;have U:us.getD p 0∈us:=by rw[List.getD_eq_getElem?_getD,List.getElem?_eq_getElem a3];exact List.getElem_mem _
    have G:=List.all_eq_true.1 c5 _ U;have hn:nth l (us.getD p 0)=some l[us.getD p 0]:=by rw[Xq];simp
    rw[hn]at G;simp only[Array.all_eq_true_iff_forall_mem,Bool.or_eq_true,Bool.not_eq_true',Bool.and_eq_true]at G;have J:=G e he;rw[hb]at J;have h5:D.getD e.on true=true/\e.on<D.size:=by
     rcases J with(J|⟨h3,J⟩)|⟨J,h3⟩
     .cases J
     .have av:e.on<l.length:=by(have:e.on+1<=l.length:=by simpa [Nat.blt] using h3);omega
      refine⟨?_,om⟩;by_cases hm2:∃ j,j<us.length/\us.getD j 0=e.on
      .obtain⟨j,hj,e2⟩:=hm2;have:=(Z j hj).2;rw[e2,J]at this;cases this
      rw[a7 _ av λj hj e2=>hm2 ⟨j,hj,e2⟩];exact J
     obtain⟨j,hj,e2⟩:=a6 _ J;have av:e.on<us.getD p 0:=by(have:e.on+1<=us.getD p 0:=by simpa [Nat.blt] using h3);(omega)
     refine⟨?_,om⟩;cases hh:D.getD e.on true with
     | true=>rfl
     | false=>
      rw[<-e2]at hh;have h6:=(O j hj).1 hh;have:=aq j h6;omega
    have h6:=h5.2;have h7:=h5.1;simp[h6]at h7 ⊢;exact h7
   rw[hr]at ai;cases ai
  obtain⟨ad,o,ho,au⟩:=mem_ready.1 hi;have af:l[i]?=some o:=by simpa using ho
  have ar:i<l.length:=(List.getElem?_eq_some_iff.1 af).1;obtain⟨p,a3,ax⟩:∃ j,j<us.length/\us.getD j 0=i:=by
   refine Classical.byContradiction λao=>?_;have G:=List.all_eq_true.1 c6 i (List.mem_range.2 ar);simp only[Bool.or_eq_true]at G;have J:=a7 i ar λj hj e=>ao ⟨j,hj,e⟩;rcases G with(G|G)|G
   .rw[G]at J;rw[J]at ad;cases ad
   .exact ao (a6 i G)
   have U:us.getD p0 0∈us:=by rw[List.getD_eq_getElem?_getD,List.getElem?_eq_getElem (a1 p0 a8)];exact List.getElem_mem _
   have h3:=List.all_eq_true.1 G _ U;rw[Bool.or_eq_true]at h3;have h3:=h3.resolve_left λh=>am (Nat.eq_of_beq_eq_true h);have h4:=Gn a2 F i (us.getD p0 0) o ho (Gm ho hi) h3;have h5:=(O p0 (a1 p0 a8)).2 a8;have h6:us.getD p0 0<D.size:=by have:=(Z p0 (a1 p0 a8)).1;omega
   generalize us.getD p0 0=k0 at h4 h5 h6
   simp[h6]at h4 h5;rw[h4]at h5;cases h5
  subst ax;have ak:=(O p a3).1 ad;have hO:=GoS.get hop a3 (by rw[Xq];exact af);rw[Nat.zero_add]at hO;have hW:=hO (λj=>a.tmps.getD (ds.getD j 0) undef) w1 hx λj hj hk=>by
   unfold Jjh at hk;rw[Array.any_eq_true']at hk;obtain⟨e,he,G⟩:=hk;simp only[Bool.and_eq_true,beq_iff_eq]at G;have J:=au e he G.1;rw[G.2]at J;have h3:us.getD j 0<D.size:=by have:=(Z j hj).1;omega
   refine hf j hj λb4=>?_;have h4:=(O j hj).2 b4;generalize us.getD j 0=k0 at J h3 h4
   simp[h3]at J h4;rw[J]at h4;cases h4
  have G:=Jwv (Q:=Q) (ops:=l.toArray) (by simpa using af) hW a (a9 a ha);refine wpOp_mono (λa' w' h=>?_) G;obtain⟨v,a4,ac,hF⟩:=h;have b9:lk ((ds.getD p 0,v)::slM (λj=>a.tmps.getD (ds.getD j 0) undef) al ds 0) (ds.getD p 0)=some v:=Kz _ _ _;have b6:ds.getD p 0∈ds:=by rw[List.getD_eq_getElem?_getD,List.getElem?_eq_getElem om];exact List.getElem_mem _
  refine⟨λ_=>ac,ih (ps.erase p) _ a' w' (by rw[List.length_erase_of_mem ak,hL];omega) (hu.erase p) (λj hj=>a1 j (hu.mem_erase_iff.1 hj).2) (λj hj=>?_) (λk G J=>?_) (by simp[ah]) (a2.step hi) ?_ (hx.trans ac) λj hj b5=>?_⟩
  .by_cases e:p=j
   .subst e;have:us.getD p 0<D.size:=om
    simp only[hu.mem_erase_iff];simp
   rw[getD_set_ne true (λe2=>e (Jqn hU a3 hj e2)),O j hj,hu.mem_erase_iff];exact⟨λh=>⟨λh'=>e h'.symm,h⟩,λh=>h.2⟩
  .rw[getD_set_ne true (J p a3)];exact a7 k G J
  .refine⟨a4.size,a4.defers,λt u ae=>?_⟩;have U:t ∉ ds:=λU=>by rw[b8 t U]at ae;cases ae
   exact a4.has t u (by rw[Yy _ _ (λe=>U (by rw[<-e];exact b6)),Kx U];exact ae)
  by_cases e:j=p
  .subst e;rw[a4.has _ _ b9];exact hF
  have b2:j ∉ ps:=λh=>b5 (hu.mem_erase_iff.2 ⟨e,h⟩);have ay:ds.getD p 0≠ds.getD j 0:=λh=>e (Jqn hN om om h.symm);have h3:=a4.has (ds.getD j 0) _ (by rw[Yy _ _ ay];exact Ul hN om);simp only[Nat.zero_add]at h3;rw[h3];exact(hf j hj b2).ext ac
end
end Go.Wk
namespace Go.Proofs.YtebiphhfkdbpfaaGreat
structure PR where
 neg: Bool
 num:Nat
 den:Nat
deriving DecidableEq
def PR.norm(a:PR): PR:=if a.num=0∨a.den=0 then⟨a.neg && a.num != 0,a.num,1⟩ else⟨a.neg,a.num / Nat.gcd a.num a.den,a.den / Nat.gcd a.num a.den⟩
def PR.int(z:Int): PR:=⟨decide (z<0),z.natAbs,1⟩
def PR.sign(a:PR): Int:=if a.num=0 then 0 else if a.neg then -1 else 1
def PR.dvs(a:PR): Nat:=if a.den=0 then 1 else a.den
def PR.cmp(a b:PR): Int:=if a.sign≠b.sign then(if a.sign<b.sign then -1 else 1) else a.sign*(if a.num*b.dvs<b.num*a.dvs then -1 else if a.num*b.dvs=b.num*a.dvs then 0 else 1)
def PR.opp(a:PR): PR:=PR.norm ⟨!a.neg,a.num,a.den⟩
def PR.addN(a b:PR): PR:=if a.neg=b.neg then PR.norm ⟨a.neg,a.num*b.den+b.num*a.den,a.den*b.den⟩ else if b.num*a.den<=a.num*b.den then PR.norm ⟨a.neg,a.num*b.den-b.num*a.den,a.den*b.den⟩ else PR.norm ⟨b.neg,b.num*a.den-a.num*b.den,a.den*b.den⟩
def PR.add(a b:PR): PR:=PR.addN a.norm b.norm
def PR.sub(a b:PR): PR:=PR.add a b.opp
def PR.mulN(a b:PR): PR:=PR.norm ⟨a.neg != b.neg,a.num*b.num,a.den*b.den⟩
def PR.mul(a b:PR): PR:=PR.mulN a.norm b.norm
def PR.div(a b:PR): PR:=if b.norm.num=0 then⟨false,0,0⟩ else PR.mul a ⟨b.norm.neg,b.norm.den,b.norm.num⟩
def pr0: PR:=⟨false,0,1⟩
def PR.val(a:PR): Rat:=(if a.neg then -(a.num:Rat) else(a.num:Rat)) / (a.den:Rat)
theorem Vl{n:Nat}(h:n≠0): (n:Rat)≠0:=by
 intro e;exact h (Rat.natCast_inj.1 e)
theorem PR.norm_val{a:PR}(hd:a.den≠0): a.norm.val=a.val/\a.norm.den≠0:=by
 unfold PR.norm;by_cases h:a.num=0
 .rw[if_pos (.inl h)];refine⟨?_,by simp⟩;simp only[PR.val,h];have:=Vl hd;have z:((0:Nat):Rat)=0:=rfl;split<;>split<;>grind
 rw[if_neg om];have G:0<Nat.gcd a.num a.den:=Nat.gcd_pos_of_pos_left _ om;obtain⟨x,F⟩:=Nat.gcd_dvd_left a.num a.den;obtain⟨y,D⟩:=Nat.gcd_dvd_right a.num a.den;generalize Nat.gcd a.num a.den=g at *
 have O:a.num / g=x:=by rw[F];exact Nat.mul_div_cancel_left x G
 have J:a.den / g=y:=by rw[D];exact Nat.mul_div_cancel_left y G
 have u:y≠0:=λe=>hd (by rw[D,e,Nat.mul_zero]);refine⟨?_,by simp only;rw[J];exact u⟩;simp only[PR.val];rw[O,J,F,D,Rat.natCast_mul,Rat.natCast_mul];have:=Vl u;have:=Vl (show g≠0 by omega);split<;>grind
theorem PR.opp_val{a:PR}(hd:a.den≠0): a.opp.val = -a.val/\a.opp.den≠0:=by
 have h:=PR.norm_val (a:=⟨!a.neg,a.num,a.den⟩) hd;refine⟨?_,h.2⟩;unfold PR.opp;rw[h.1];have:=Vl hd;simp only[PR.val];cases a.neg<;>simp<;>grind
theorem PR.addN_val{a b:PR}(ha:a.den≠0)(hb:b.den≠0): (PR.addN a b).val=a.val+b.val/\(PR.addN a b).den≠0:=by
 have u:a.den*b.den≠0:=Nat.mul_ne_zero ha hb;have J:=Vl ha;have G:=Vl hb;unfold PR.addN;by_cases e:a.neg=b.neg
 .rw[if_pos e];have h:=PR.norm_val (a:=⟨a.neg,a.num*b.den+b.num*a.den,a.den*b.den⟩) u;refine⟨?_,h.2⟩;rw[h.1];simp only[PR.val,<-e];rw[Rat.natCast_mul,Rat.natCast_add,Rat.natCast_mul,Rat.natCast_mul];split<;>grind
 rw[if_neg e];by_cases e2:b.num*a.den<=a.num*b.den
 .rw[if_pos e2];have h:=PR.norm_val (a:=⟨a.neg,a.num*b.den-b.num*a.den,a.den*b.den⟩) u;refine⟨?_,h.2⟩;rw[h.1];obtain⟨d,y⟩:=Nat.le.dest e2;have D:a.num*b.den-b.num*a.den=d:=om
  have F:(a.num:Rat)*b.den=b.num*a.den+d:=by rw[<-Rat.natCast_mul,<-y,Rat.natCast_add,Rat.natCast_mul]
  simp only[PR.val,D];rw[Rat.natCast_mul];cases hna:a.neg<;>cases hnb:b.neg<;>simp[hna,hnb]at e ⊢<;>grind
 rw[if_neg e2];have h:=PR.norm_val (a:=⟨b.neg,b.num*a.den-a.num*b.den,a.den*b.den⟩) u;refine⟨?_,h.2⟩;rw[h.1];obtain⟨d,y⟩:=Nat.le.dest (Nat.le_of_lt (Nat.lt_of_not_le e2));have D:b.num*a.den-a.num*b.den=d:=om
 have F:(b.num:Rat)*a.den=a.num*b.den+d:=by rw[<-Rat.natCast_mul,<-y,Rat.natCast_add,Rat.natCast_mul]
 simp only[PR.val,D];rw[Rat.natCast_mul];cases hna:a.neg<;>cases hnb:b.neg<;>simp[hna,hnb]at e ⊢<;>grind
theorem PR.add_val{a b:PR}(ha:a.den≠0)(hb:b.den≠0): (PR.add a b).val=a.val+b.val/\(PR.add a b).den≠0:=by
 have y:=PR.norm_val ha;have u:=PR.norm_val hb;have h:=PR.addN_val y.2 u.2;exact⟨by rw[PR.add,h.1,y.1,u.1],h.2⟩
theorem PR.sub_val{a b:PR}(ha:a.den≠0)(hb:b.den≠0): (PR.sub a b).val=a.val-b.val/\(PR.sub a b).den≠0:=by
 have u:=PR.opp_val hb;have h:=PR.add_val ha u.2;exact⟨by rw[PR.sub,h.1,u.1];grind,h.2⟩
theorem PR.mulN_val{a b:PR}(ha:a.den≠0)(hb:b.den≠0): (PR.mulN a b).val=a.val*b.val/\(PR.mulN a b).den≠0:=by
 have h:=PR.norm_val (a:=⟨a.neg != b.neg,a.num*b.num,a.den*b.den⟩) (Nat.mul_ne_zero ha hb);refine⟨?_,h.2⟩;unfold PR.mulN;rw[h.1];have y:=Vl ha;have u:=Vl hb;simp only[PR.val];rw[Rat.natCast_mul,Rat.natCast_mul];cases a.neg<;>cases b.neg<;>simp<;>grind
theorem PR.mul_val{a b:PR}(ha:a.den≠0)(hb:b.den≠0): (PR.mul a b).val=a.val*b.val/\(PR.mul a b).den≠0:=by
 have y:=PR.norm_val ha;have u:=PR.norm_val hb;have h:=PR.mulN_val y.2 u.2;exact⟨by rw[PR.mul,h.1,y.1,u.1],h.2⟩
theorem PR.sign_val{a:PR}(ha:a.den≠0): (a.sign<0↔a.val<0)/\(a.sign=0↔a.val=0)/\(0<a.sign↔0<a.val):=by
 have D:(0:Rat)<a.den:=by
  have:0<a.den:=om
  exact Rat.natCast_pos.2 this
 unfold PR.sign PR.val;by_cases e:a.num=0
 .rw[if_pos e,e];have:(if a.neg=true then -((0:Nat):Rat) else((0:Nat):Rat)) / a.den=0:=by split<;>grind
  rw[this];refine⟨?_,?_,?_⟩<;>grind
 rw[if_neg e];have y:(0:Rat)<a.num:=Rat.natCast_pos.2 om;have F:(0:Rat)<a.num / a.den:=by
  rw[Rat.div_def];exact Rat.mul_pos y (Rat.inv_pos.2 D)
 cases a.neg
 .simp only[Bool.false_eq_true,if_false];refine⟨?_,?_,?_⟩<;>grind
 simp only[if_true];have u:-(a.num:Rat) / a.den = -(a.num / a.den):=by grind
 rw[u];refine⟨?_,?_,?_⟩<;>grind
theorem PR.div_val{a b:PR}(ha:a.den≠0)(hb:b.den≠0)(h0:b.val≠0): (PR.div a b).val=a.val / b.val/\(PR.div a b).den≠0:=by
 have u:=PR.norm_val hb;have hn:b.norm.num≠0:=λe=>h0 (by
  rw[<-u.1];have:=Vl u.2;simp only[PR.val,e];split<;>grind)
 unfold PR.div;rw[if_neg hn];have h:=PR.mul_val (a:=a) (b:=⟨b.norm.neg,b.norm.den,b.norm.num⟩) ha hn;refine⟨?_,h.2⟩;rw[h.1,<-u.1];have:=Vl u.2;have:=Vl hn;simp only[PR.val];cases b.norm.neg<;>simp<;>grind
structure PT where
 n: Nat
 m:Nat
 rows:List (List PR)
 goal:List PR
 basis:List Nat
deriving DecidableEq
def PT.right(t:PT): Nat:=t.n+t.m+1
def Xe(row other:List PR)(f:PR): List PR:=if f.sign=0 then row else List.zipWith (λa b=>if b.sign≠0 then PR.sub a (PR.mul f b) else a) row other
def dvR(row:List PR)(d:PR): List PR:=row.map λa=>if a.sign≠0 then PR.div a d else a
def PT.pivot(t:PT)(r c:Nat): PT :=
 let p:=dvR (t.rows.getD r []) ((t.rows.getD r []).getD c pr0)
 ⟨t.n,t.m,(t.rows.mapIdx λi row=>if i=r then p else Xe row p (row.getD c pr0)),Xe t.goal p (t.goal.getD c pr0),t.basis.set r c⟩
def lvS(t:PT)(c:Nat): Nat->Option (Nat×PR)
 | 0=>none
 | i+1=>
  let row:=t.rows.getD i []
  if(row.getD c pr0).sign<=0 then lvS t c i
  else
   let q:=PR.div (row.getD t.right pr0) (row.getD c pr0)
   match lvS t c i with
   | none=>some (i,q)
   | some (b,least)=>if PR.cmp q least<0∨(PR.cmp q least=0/\t.basis.getD i 0<t.basis.getD b 0) then some (i,q) else some (b,least)
def PT.leaving(t:PT)(c:Nat): Option Nat:=(lvS t c t.rows.length).map (·.1)
def PT.enter(t:PT)(cols:Nat): Option Nat:=(List.range cols).find? λj=>decide ((t.goal.getD j pr0).sign<0)
def PT.maxim(cols:Nat): Nat->PT->Option PT
 | 0,_=>none
 | k+1,t=>match t.enter cols with
  | none=>some t
  | some j=>match t.leaving j with
   | none=>none
   | some r=>PT.maxim cols k (t.pivot r j)
def PT.ofP(n:Nat)(A:List (List PR)): PT :=
 ⟨n,A.length,A.mapIdx λi a=>a++(List.range A.length).map (λk=>if k=i then PR.int 1 else pr0)++[PR.int (-1),PR.int 1],(List.replicate n (PR.int (-1)))++List.replicate (A.length+2) pr0,(List.range A.length).map (n + ·)⟩
def PT.point(t:PT): List PR:=(List.range t.n).map λv=>match(List.range t.basis.length).reverse.find? λi=>t.basis.getD i 0 == v with
 | none=>pr0
 | some i=>(t.rows.getD i []).getD t.right pr0
def PT.dual(t:PT): List PR:=(t.goal.drop t.n).take t.m
def Jw(N set:Nat): List Nat:=(List.range N).filter λv=>set.testBit v
def Jh(E:List Nat)(set:Nat): Nat->List Nat
 | 0=>[]
 | i+1=>let p:=(E.getD i 0) &&& set
  if p=0∨(List.range i).any (λk=>(E.getD k 0) &&& set == p) then Jh E set i else Jh E set i++[i]
def Vq(N:Nat)(E:List Nat)(set:Nat): List (List PR):=(Jh E set E.length).map λi=>(Jw N set).map λv=>PR.int (((E.getD i 0) &&& set).testBit v).toNat
structure PC where
 ws: List PR
 ps:List PR
 val:PR
deriving DecidableEq
def Yn(l:List PR)(is:List Nat)(xs:List PR): List PR:=(is.zip xs).foldl (λl p=>l.set p.1 p.2) l
def cvr(fuel N:Nat)(E:List Nat)(set:Nat): Option PC:=(PT.maxim ((Jw N set).length+(Jh E set E.length).length) fuel (PT.ofP (Jw N set).length (Vq N E set))).map λt=>⟨Yn (List.replicate E.length pr0) (Jh E set E.length) t.dual,Yn (List.replicate N pr0) (Jw N set) t.point,t.goal.getD t.right pr0⟩
def dnm(ws:List PR): Nat:=ws.foldl (λd w=>d / Nat.gcd d w.norm.den*w.norm.den) 1
def Gt(ws:List PR)(sizes:List Nat)(d:Nat): Nat:=(ws.zip sizes).foldl (λr p=>r*p.2^(PR.norm (PR.mul p.1 (PR.norm ⟨false,d,0⟩))).num) 1
end Go.Proofs.YtebiphhfkdbpfaaGreat
namespace Go.Proofs.YtebiphhfkdbpfaaGreat.Bl
variable {K c i j k n p q s:Nat}{f g:Nat->Rat}{a b:Rat}
def Jc: Nat->(Nat->Rat)->Rat
 | 0,_=>0
 | n+1,f=>Jc n f+f n
theorem Uo(h:∀ j,j<n->f j=g j): Jc n f=Jc n g:=by
 induction n with
 | zero=>rfl
 | succ n ih=>rw[Jc,Jc,ih λj u=>h j om,h n om]
theorem Jqc(n:Nat)(f g:Nat->Rat)(k:Rat): Jc n (λj=>f j-k*g j)=Jc n f-k*Jc n g:=by
 induction n with
 | zero=>grind [Jc]
 | succ n ih=>grind [Jc]
theorem Gf(n:Nat)(f:Nat->Rat)(k:Rat): Jc n (λj=>k*f j)=k*Jc n f:=by
 induction n with
 | zero=>grind [Jc]
 | succ n ih=>grind [Jc]
theorem Jvj(n:Nat)(f g:Nat->Rat): Jc n (λj=>f j+g j)=Jc n f+Jc n g:=by
 induction n with
 | zero=>grind [Jc]
 | succ n ih=>grind [Jc]
theorem Jqb(h:∀ j,j<n->f j=0): Jc n f=0:=by
 induction n with
 | zero=>rfl
 | succ n ih=>rw[Jc,ih λj u=>h j om,h n om];grind
theorem Ue(hc:c<n)(h:∀ j,j<n->j≠c->f j=0): Jc n f=f c:=by
 induction n with
 | zero=>omega
 | succ n ih=>
  rw[Jc];by_cases e:c=n
  .subst e;rw[Jqb λj y=>h j om om];grind
  rw[ih om λj y u=>h j om u,h n om om];grind
theorem Qxx(h:0<Jc n f): ∃ j,j<n/\0<f j:=by
 induction n with
 | zero=>simp[Jc]at h
 | succ n ih=>
  rw[Jc]at h;by_cases e:0<f n
  .exact⟨n,om,e⟩
  obtain⟨j,y,u⟩:=ih (by grind);exact⟨j,om,u⟩
theorem Qxw(n m:Nat)(f:Nat->Nat->Rat): Jc n (λj=>Jc m λi=>f i j)=Jc m λi=>Jc n λj=>f i j:=by
 induction n with
 | zero=>simp only[Jc];exact(Jqb λ_ _=>rfl).symm
 | succ n ih=>simp only[Jc];rw[ih,<-Jvj]
structure QT where
 a: Nat->Nat->Rat
 b:Nat->Rat
 g:Nat->Rat
 z:Rat
 β:Nat->Nat
def QT.pivot(t:QT)(r c:Nat): QT :=
 ⟨λi j=>if i=r then t.a r j / t.a r c else t.a i j-t.a i c*(t.a r j / t.a r c),λi=>if i=r then t.b r / t.a r c else t.b i-t.a i c*(t.b r / t.a r c),λj=>t.g j-t.g c*(t.a r j / t.a r c),t.z-t.g c*(t.b r / t.a r c),λi=>if i=r then c else t.β i⟩
def Sol(m n:Nat)(t:QT)(x:Nat->Rat): Prop:=∀ i,i<m->Jc n (λj=>t.a i j*x j)=t.b i
def QT.val(n:Nat)(t:QT)(x:Nat->Rat): Rat:=t.z-Jc n λj=>t.g j*x j
structure WF(m n:Nat)(t:QT): Prop where
 lt:∀ i,i<m->t.β i<n
 unit:∀ i k,i<m->k<m->t.a k (t.β i)=if k=i then 1 else 0
 red:∀ i,i<m->t.g (t.β i)=0
variable {m n r c:Nat} {t:QT} {x:Nat->Rat}
theorem Jvw(hp:t.a r c≠0): Jc n (λj=>t.a r j / t.a r c*x j)=Jc n (λj=>t.a r j*x j) / t.a r c:=by
 rw[show(λj=>t.a r j / t.a r c*x j)=λj=>(1 / t.a r c)*(t.a r j*x j) by funext j;grind,Gf];grind
theorem Qzp(hr:r<m)(hp:t.a r c≠0)(h:Sol m n t x): Sol m n (t.pivot r c) x:=λi hi=>by
 have h0:=h r hr;have u:=Jvw (n:=n) (x:=x) hp;by_cases e:i=r
 .subst e;simp only[QT.pivot,if_true];rw[u,h0]
 simp only[QT.pivot,if_neg e];rw[show(λj=>(t.a i j-t.a i c*(t.a r j / t.a r c))*x j)=λj=>t.a i j*x j-t.a i c*(t.a r j / t.a r c*x j) by funext j;grind,Jqc,u,h0,h i hi]
theorem Jgc(hr:r<m)(hp:t.a r c≠0)(h:Sol m n (t.pivot r c) x): Sol m n t x:=by
 have h0:=h r hr;have u:=Jvw (n:=n) (x:=x) hp;simp only[QT.pivot,if_true]at h0;rw[u]at h0;have D:Jc n (λj=>t.a r j*x j)=t.b r:=by grind
 intro i hi;by_cases e:i=r
 .subst e;exact D
 have y:=h i hi;simp only[QT.pivot,if_neg e]at y;rw[show(λj=>(t.a i j-t.a i c*(t.a r j / t.a r c))*x j)=λj=>t.a i j*x j-t.a i c*(t.a r j / t.a r c*x j) by funext j;grind,Jqc,u,D]at y;grind
theorem Jfg(hr:r<m)(hp:t.a r c≠0)(h:Sol m n t x): (t.pivot r c).val n x=t.val n x:=by
 have h0:=h r hr;have u:=Jvw (n:=n) (x:=x) hp;simp only[QT.val,QT.pivot];rw[show(λj=>(t.g j-t.g c*(t.a r j / t.a r c))*x j)=λj=>t.g j*x j-t.g c*(t.a r j / t.a r c*x j) by funext j;grind,Jqc,u,h0];grind
theorem WF.inj(h:WF m n t)(hi:i<m)(hk:k<m)(e:t.β i=t.β k): i=k:=by
 have y:=h.unit i i hi hi;have u:=h.unit k i hk hi;rw[<-e,y]at u;by_cases e2:i=k
 .exact e2
 rw[if_neg e2]at u;simp at u
theorem Jdw(h:WF m n t)(hr:r<m)(hc:c<n)(hp:t.a r c≠0): WF m n (t.pivot r c):=by
 refine⟨λi hi=>?_,λi k hi D=>?_,λi hi=>?_⟩
 .simp only[QT.pivot];split
  .exact hc
  exact h.lt i hi
 .have y:=h.unit i k hi D;have u:=h.unit i r hi hr;simp only[QT.pivot];by_cases e:i=r
  .subst e;simp only[if_true];by_cases e2:k=i
   .subst e2;simp only[if_true];grind
   simp only[if_neg e2];grind
  simp only[if_neg e];rw[if_neg (λh=>e h.symm)]at u;by_cases e2:k=r
  .subst e2;rw[if_neg (λh=>e h.symm)]at y;simp only[if_true];rw[y,if_neg (λh=>e h.symm)];grind
  simp only[if_neg e2];rw[u,y];grind
 simp only[QT.pivot];by_cases e:i=r
 .subst e;simp only[if_true];grind
 simp only[if_neg e];have u:=h.unit i r hi hr;rw[if_neg (λh=>e h.symm)]at u;rw[u,h.red i hi];grind
def QT.pt(m:Nat)(t:QT)(s:Nat)(l:Rat): Nat->Rat:=λj=>(if j=s then l else 0)+Jc m λi=>if t.β i=j then t.b i-t.a i s*l else 0
theorem Gr(hw:WF m n t)(hs:s<n)(l:Rat)(h:Nat->Rat): Jc n (λj=>h j*t.pt m s l j)=h s*l+Jc m λi=>h (t.β i)*(t.b i-t.a i s*l):=by
 have e:(λj=>h j*t.pt m s l j)=λj=>(h j*(if j=s then l else 0))+Jc m λi=>h j*(if t.β i=j then t.b i-t.a i s*l else 0):=by
  funext j;rw[Gf];simp only[QT.pt];grind
 rw[e,Jvj,Qxw];congr 1
 .rw[Ue hs λj _ u=>by rw[if_neg u];grind,if_pos rfl]
 refine Uo λi hi=>?_;rw[Ue (hw.lt i hi) λj _ u=>by rw[if_neg (λh=>u h.symm)];grind,if_pos rfl]
theorem Uu(hw:WF m n t)(hs:s<n)(l:Rat): Sol m n t (t.pt m s l):=λk u=>by
 rw[Gr hw hs l (λj=>t.a k j),Uo (g:=λi=>if i=k then t.b k-t.a k s*l else 0),Ue u λj _ y=>if_neg y,if_pos rfl]
 .grind
 intro i hi;rw[hw.unit i k hi u];by_cases e:k=i
 .subst e;simp only[if_true];grind
 rw[if_neg e,if_neg (λh=>e h.symm)];grind
theorem Jzk(hw:WF m n t)(hs:s<n)(l:Rat): t.val n (t.pt m s l)=t.z-t.g s*l:=by
 unfold QT.val;rw[Gr hw hs l t.g,Jqb (f:=λi=>t.g (t.β i)*(t.b i-t.a i s*l)) λi hi=>by rw[hw.red i hi];grind];grind
structure Eqv(m n:Nat)(t u:QT): Prop where
 sol:∀ x,Sol m n t x->Sol m n u x
 val:∀ x,Sol m n t x->t.val n x=u.val n x
theorem Eqv.refl(t:QT): Eqv m n t t:=⟨λx h=>h,λx h=>rfl⟩
theorem Eqv.trans{u v:QT}(h:Eqv m n t u)(k:Eqv m n u v): Eqv m n t v:=⟨λx y=>k.sol x (h.sol x y),λx y=>(h.val x y).trans (k.val x (h.sol x y))⟩
theorem Jpw(hr:r<m)(hp:t.a r c≠0): Eqv m n t (t.pivot r c):=⟨λx h=>Qzp hr hp h,λx h=>(Jfg hr hp h).symm⟩
theorem Jpx(hr:r<m)(hp:t.a r c≠0): Eqv m n (t.pivot r c) t:=⟨λx h=>Jgc hr hp h,λx h=>Jfg hr hp (Jgc hr hp h)⟩
theorem Jyg{u:QT}(hw:WF m n t)(he:Eqv m n t u)(hs:s<n): t.g s=u.g s-Jc m λi=>u.g (t.β i)*t.a i s:=by
 have h0:=he.val _ (Uu hw hs 0);have y:=he.val _ (Uu hw hs 1);rw[Jzk hw hs]at h0 y;unfold QT.val at h0 y;rw[Gr hw hs _ u.g]at h0 y;have e:Jc m (λi=>u.g (t.β i)*(t.b i-t.a i s*1))=Jc m (λi=>u.g (t.β i)*(t.b i-t.a i s*0))-1*Jc m (λi=>u.g (t.β i)*t.a i s):=by
  rw[<-Jqc];congr 1;funext i;grind
 rw[e]at y;grind
structure Bst(m n:Nat)(t:QT)(r c:Nat): Prop where
 rm:r<m
 cn:c<n
 ent:t.g c<0
 first:∀ j,j<c->0<=t.g j
 pos:0<t.a r c
 ratio:∀ i,i<m->0<t.a i c->t.b r / t.a r c<=t.b i / t.a i c/\(t.b i / t.a i c=t.b r / t.a r c->t.β r<=t.β i)
def Kf(m:Nat)(t:QT): Prop:=∀ i,i<m->0<=t.b i
theorem Jrb(ha:0<=a)(hb:0<b): 0<=a / b:=by
 rw[Rat.div_def];exact Rat.mul_nonneg ha (Rat.le_of_lt (Rat.inv_pos.2 hb))
theorem Jps(h:Bst m n t r c)(hf:Kf m t): Kf m (t.pivot r c):=λi hi=>by
 have u:=Jrb (hf r h.rm) h.pos;simp only[QT.pivot];by_cases e:i=r
 .rw[if_pos e];exact u
 rw[if_neg e];by_cases hp:0<t.a i c
 .have y:=(h.ratio i hi hp).1;have D:t.a i c*(t.b r / t.a r c)<=t.a i c*(t.b i / t.a i c):=Rat.mul_le_mul_of_nonneg_left y (Rat.le_of_lt hp);have F:t.a i c*(t.b i / t.a i c)=t.b i:=by grind
  grind
 have y:t.a i c*(t.b r / t.a r c)<=0*(t.b r / t.a r c):=Rat.mul_le_mul_of_nonneg_right (by grind) u;have D:=hf i hi;grind
theorem Qcl(ha:a<0)(hb:0<b): a*b<0:=by
 have:=Rat.mul_pos (show 0 < -a by grind) hb;grind
structure Run(m n K:Nat)(T:Nat->QT)(R C:Nat->Nat): Prop where
 w0:WF m n (T 0)
 f0:Kf m (T 0)
 st:∀ k,k<K->Bst m n (T k) (R k) (C k)
 nx:∀ k,k<K->T (k+1)=(T k).pivot (R k) (C k)
section
variable {K:Nat} {T:Nat->QT} {R C:Nat->Nat} (h:Run m n K T R C)
include h
theorem Run.ne(hk:k<K): (T k).a (R k) (C k)≠0:=by have:=(h.st k hk).pos;grind
theorem Run.wf: ∀ {k:Nat},k<=K->WF m n (T k)
 | 0,_=>h.w0
 | k+1,hk=>by rw[h.nx k hk];exact Jdw (Run.wf om) (h.st k hk).rm (h.st k hk).cn (h.ne hk)
theorem Run.feas: ∀ {k:Nat},k<=K->Kf m (T k)
 | 0,_=>h.f0
 | k+1,hk=>by rw[h.nx k hk];exact Jps (h.st k hk) (Run.feas om)
theorem Run.up{j:Nat}: ∀ {k:Nat},j<=k->k<=K->Eqv m n (T j) (T k)/\Eqv m n (T k) (T j)
 | 0,h1,_=>by(obtain rfl:j=0:=by omega);(exact⟨Eqv.refl _,Eqv.refl _⟩)
 | k+1,h1,hk=>by
  by_cases e:j=k+1
  .subst e;exact⟨Eqv.refl _,Eqv.refl _⟩
  obtain⟨i1,i2⟩:=Run.up (j:=j) (k:=k) om om;rw[h.nx k hk];exact⟨i1.trans (Jpw (h.st k hk).rm (h.ne hk)),(Jpx (h.st k hk).rm (h.ne hk)).trans i2⟩
theorem Run.eqv(hj:j<=K)(hk:k<=K): Eqv m n (T j) (T k):=by
 rcases Nat.le_total j k with e|e
 .exact(h.up e hk).1
 exact(h.up e hj).2
theorem Run.zle{j:Nat}: ∀ {k:Nat},j<=k->k<=K->(T j).z<=(T k).z
 | 0,h1,_=>by(obtain rfl:j=0:=by omega);(grind)
 | k+1,h1,hk=>by
  by_cases e:j=k+1
  .subst e;grind
  have h2:=Run.zle (j:=j) (k:=k) om om;have hs:=h.st k hk;have hq:=Jrb (h.feas (k:=k) om _ hs.rm) hs.pos;have h3:(T k).g (C k)*((T k).b (R k) / (T k).a (R k) (C k))<=0*((T k).b (R k) / (T k).a (R k) (C k)):=Rat.mul_le_mul_of_nonneg_right (by have:=hs.ent;grind) hq;rw[h.nx k hk];simp only[QT.pivot];grind
theorem Run.β(hk:k<K): (T (k+1)).β i=if i=R k then C k else(T k).β i:=by rw[h.nx k hk];rfl
theorem Run.enter{y j:Nat}(h0:¬ ∃ i,i<m/\(T j).β i=y): ∀ {k:Nat},j<=k->k<=K->(∃ i,i<m/\(T k).β i=y)->∃ e,j<=e/\e<k/\C e=y
 | 0,h1,_,h2=>by(obtain rfl:j=0:=by omega);(exact absurd h2 h0)
 | k+1,h1,hk,⟨i,hi,h2⟩=>by
  by_cases e:j=k+1
  .subst e;exact absurd ⟨i,hi,h2⟩ h0
  rw[h.β hk]at h2;by_cases e2:i=R k
  .rw[if_pos e2]at h2;exact⟨k,om,om,h2⟩
  rw[if_neg e2]at h2;obtain⟨e,h3,h4,h5⟩:=Run.enter h0 (k:=k) om om ⟨i,hi,h2⟩;exact⟨e,h3,om,h5⟩
theorem Run.leave{y j:Nat}(h0:∃ i,i<m/\(T j).β i=y): ∀ {k:Nat},j<=k->k<=K->(¬ ∃ i,i<m/\(T k).β i=y)->∃ e,j<=e/\e<k/\(T e).β (R e)=y
 | 0,h1,_,h2=>by(obtain rfl:j=0:=by omega);(exact absurd h0 h2)
 | k+1,h1,hk,h2=>by
  by_cases e:j=k+1
  .subst e;exact absurd h0 h2
  by_cases e2:∃ i,i<m/\(T k).β i=y
  .obtain⟨i,hi,h3⟩:=e2;by_cases e3:i=R k
   .exact⟨k,om,om,by rw[<-e3];exact h3⟩
   exact absurd ⟨i,hi,by rw[h.β hk,if_neg e3];exact h3⟩ h2
  obtain⟨e,h3,h4,h5⟩:=Run.leave h0 (k:=k) om om e2;exact⟨e,h3,om,h5⟩
theorem Run.cycle(hpq : p < q)(hq : q ≤ K)(hβ : ∀ i, i < m → (T p).β i = (T q).β i): False := by
  have hs0 := (h.st p om).cn
  have wp := h.wf (k := p) om
  have wq := h.wf hq
  have hx := Uu wp hs0 0
  have he := h.eqv (j := p) (k := q) om hq
  -- the values are the same
  have hz : (T p).z = (T q).z := by
    have h1 := he.val _ hx
    rw [Jzk wp hs0] at h1
    unfold QT.val at h1
    rw [Gr wp hs0 0 (T q).g, Jqb (f := fun i => (T q).g ((T p).β i) * ((T p).b i - (T p).a i (C p) * 0)) fun i hi => by rw [hβ i hi, wq.red i hi]; grind] at h1
    grind
  have hzk : ∀ k, p ≤ k → k ≤ q → (T k).z = (T p).z := fun k h1 h2 => by
    have k1 := h.zle h1 om
    have k2 := h.zle h2 hq
    grind
  have hdeg : ∀ k, p ≤ k → k < q → (T k).b (R k) / (T k).a (R k) (C k) = 0 := fun k h1 h2 => by
    have k1 := hzk k h1 om
    have k2 := hzk (k + 1) om om
    rw [h.nx k om] at k2
    simp only [QT.pivot] at k2
    have k3 := (h.st k om).ent
    have k4 : (T k).g (C k) * ((T k).b (R k) / (T k).a (R k) (C k)) = 0 := by grind
    rcases Rat.mul_eq_zero.1 k4 with k5 | k5
    . grind
    . exact k5
  have hbr : ∀ k, p ≤ k → k < q → (T k).b (R k) = 0 := fun k h1 h2 => by
    have k1 := hdeg k h1 h2
    have k2 := (h.st k om).pos
    grind
  have hbs : ∀ k, p ≤ k → k < q → ∀ i, (T (k + 1)).b i = (T k).b i := fun k h1 h2 i => by
    have k1 := hdeg k h1 h2
    have k2 := hbr k h1 h2
    rw [h.nx k om]
    simp only [QT.pivot]
    by_cases e : i = R k
    . rw [if_pos e, k1, e, k2]
    . rw [if_neg e, k1]; grind
  -- a basic variable that is once beside the basis is 0
  have hZ : ∀ y j k, p ≤ j → j ≤ k → k ≤ q → ((∀ i, i < m → (T j).β i = y → (T j).b i = 0) ↔ ∀ i, i < m → (T k).β i = y → (T k).b i = 0) := by
    intro y j k h1 h2
    induction k with
    | zero => intro _; obtain rfl : j = 0 := by omega
              exact Iff.rfl
    | succ k ih =>
      intro h3
      by_cases e : j = k + 1
      . subst e; exact Iff.rfl
      . rw [ih om om]
        have kb := hbs k om om
        have k0 := hbr k om om
        refine ⟨fun hh i hi hy => ?_, fun hh i hi hy => ?_⟩
        . rw [h.β om] at hy
          rw [kb]
          by_cases e2 : i = R k
          . rw [e2]; exact k0
          . rw [if_neg e2] at hy; exact hh i hi hy
        . by_cases e2 : i = R k
          . rw [e2]; exact k0
          . have := hh i hi (by rw [h.β om, if_neg e2]; exact hy)
            rwa [kb] at this
  have hZ2 : ∀ y j k, p ≤ j → j ≤ q → p ≤ k → k ≤ q → (¬ ∃ i, i < m ∧ (T j).β i = y) → ∀ i, i < m → (T k).β i = y → (T k).b i = 0 := fun y j k h1 h2 h3 h4 h5 => by
    have h6 : ∀ i, i < m → (T j).β i = y → (T j).b i = 0 := fun i hi hy => absurd ⟨i, hi, hy⟩ h5
    rcases Nat.le_total j k with e | e
    . exact (hZ y j k h1 e h4).1 h6
    . exact (hZ y k j h3 e h2).2 h6
  -- the greatest column that comes in
  obtain ⟨u, hu1, hu2, hmax⟩ : ∃ u, p ≤ u ∧ u < q ∧ ∀ e, p ≤ e → e < q → C e ≤ C u := by
    have key : ∀ k, p < k → k ≤ q → ∃ u, p ≤ u ∧ u < k ∧ ∀ e, p ≤ e → e < k → C e ≤ C u := by
      intro k
      induction k with
      | zero => intro h1; omega
      | succ k ih =>
        intro h1 h2
        by_cases e : p = k
        . subst e; exact ⟨p, nR _, by omega, fun e h3 h4 => by rw [show e = p by omega]; exact nR _⟩
        . obtain ⟨u, k1, k2, k3⟩ := ih om om
          by_cases e2 : C u ≤ C k
          . exact ⟨k, by omega, by omega, fun e h3 h4 => by
              by_cases e3 : e = k
              . rw [e3]; exact nR _
              . exact nL (k3 e h3 om) e2⟩
          . exact ⟨u, k1, by omega, fun e h3 h4 => by
              by_cases e3 : e = k
              . rw [e3]; omega
              . exact k3 e h3 om⟩
    exact key q hpq (nR _)
  have su := h.st u om
  have wu := h.wf (k := u) om
  have hnu : ¬ ∃ i, i < m ∧ (T u).β i = C u := fun ⟨i, hi, e⟩ => by
    have := wu.red i hi
    rw [e] at this
    have := su.ent
    grind
  have hiu : ∃ i, i < m ∧ (T (u + 1)).β i = C u := ⟨R u, su.rm, by rw [h.β om, if_pos rfl]⟩
  have hsame : ∀ y, (∃ i, i < m ∧ (T p).β i = y) ↔ ∃ i, i < m ∧ (T q).β i = y := fun y => ⟨fun ⟨i, hi, e⟩ => ⟨i, hi, by rw [← hβ i hi]; exact e⟩, fun ⟨i, hi, e⟩ => ⟨i, hi, by rw [hβ i hi]; exact e⟩⟩
  obtain ⟨v, hv1, hv2, hv⟩ : ∃ v, p ≤ v ∧ v < q ∧ (T v).β (R v) = C u := by
    by_cases e : ∃ i, i < m ∧ (T q).β i = C u
    . obtain ⟨v, k1, k2, k3⟩ := h.leave ((hsame _).2 e) (k := u) hu1 om hnu
      exact ⟨v, k1, by omega, k3⟩
    . obtain ⟨v, k1, k2, k3⟩ := h.leave hiu (k := q) om hq e
      exact ⟨v, by omega, k2, k3⟩
  have sv := h.st v om
  have wv := h.wf (k := v) om
  have hst : C v ≠ C u := fun e => by
    have := wv.red (R v) sv.rm
    rw [hv, ← e] at this
    have := sv.ent
    grind
  have hle := hmax v hv1 hv2
  have hgs := su.first (C v) om
  have hre := Jyg wv (h.eqv (j := v) (k := u) om om) sv.cn
  have hsv := sv.ent
  obtain ⟨i, hi, hpi⟩ := Qxx (n := m) (f := fun i => (T u).g ((T v).β i) * (T v).a i (C v)) (by grind)
  have hir : i ≠ R v := fun e => by
    rw [e, hv] at hpi
    have := Qcl su.ent sv.pos
    grind
  have hny : ¬ ∃ k, k < m ∧ (T u).β k = (T v).β i := fun ⟨k, hk, e⟩ => by
    have := wu.red k hk
    rw [e] at this
    rw [this] at hpi
    grind
  have hyv : ∃ k, k < m ∧ (T v).β k = (T v).β i := ⟨i, hi, rfl⟩
  have hy : (T v).β i ≤ C u := by
    have : ∃ e, p ≤ e ∧ e < q ∧ C e = (T v).β i := by
      rcases Nat.le_total u v with e | e
      . obtain ⟨e, k1, k2, k3⟩ := h.enter hny (k := v) e om hyv
        exact ⟨e, by omega, by omega, k3⟩
      . by_cases eq : ∃ k, k < m ∧ (T q).β k = (T v).β i
        . obtain ⟨e, k1, k2, k3⟩ := h.enter hny (k := q) om hq eq
          exact ⟨e, by omega, k2, k3⟩
        . obtain ⟨e, k1, k2, k3⟩ := h.enter (fun hh => eq ((hsame _).1 hh)) (k := v) hv1 om hyv
          exact ⟨e, k1, by omega, k3⟩
    obtain ⟨e, k1, k2, k3⟩ := this
    rw [← k3]; exact hmax e k1 k2
  have hyt : (T v).β i ≠ C u := fun e => hir (wv.inj hi sv.rm (by rw [e, hv]))
  have hgy := su.first ((T v).β i) om
  have hap : 0 < (T v).a i (C v) := by
    rcases Rat.le_total (b := 0) (a := (T v).a i (C v)) with k | k
    . have := Rat.mul_le_mul_of_nonneg_left k hgy
      grind
    . by_cases e : (T v).a i (C v) = 0
      . rw [e] at hpi; grind
      . grind
  have hbi := hZ2 ((T v).β i) u v hu1 om hv1 om hny i hi rfl
  have hra := (sv.ratio i hi hap).2 (by rw [hbi, hdeg v hv1 hv2]; grind)
  rw [hv] at hra
  omega
end
def cod(n:Nat)(β:Nat->Nat): Nat->Nat
 | 0=>0
 | m+1=>cod n β m*n+β m
theorem Jrn{n:Nat}{β:Nat->Nat}: ∀ {m:Nat},(∀ i,i<m->β i<n)->cod n β m<n^m
 | 0,_=>by simp[cod]
 | m+1,h=>by
  have ih:=Jrn (m:=m) λi hi=>h i om;have h1:=h m om;rw[cod,Nat.pow_succ];have h2:(cod n β m+1)*n<=n^m*n:=nO n ih;rw[Nat.succ_mul]at h2;omega
theorem Jrp{n:Nat}{β γ:Nat->Nat}: ∀ {m:Nat},(∀ i,i<m->β i<n)->(∀ i,i<m->γ i<n)->cod n β m=cod n γ m->∀ i,i<m->β i=γ i
 | 0,_,_,_,i,hi=>by omega
 | m+1,h1,h2,e,i,hi=>by
  rw[cod,cod]at e;have b1:=h1 m om;have b2:=h2 m om;have e1:β m=γ m:=by
   have:=congrArg (· % n) e
   simp only[Nat.mul_comm _ n,Nat.mul_add_mod,Nat.mod_eq_of_lt b1,Nat.mod_eq_of_lt b2]at this;exact this
  by_cases ei:i=m
  .rw[ei];exact e1
  refine Jrp (m:=m) (λi hi=>h1 i om) (λi hi=>h2 i om) ?_ i om;rw[e1]at e;exact Nat.eq_of_mul_eq_mul_right om (Nat.add_right_cancel e)
theorem Jzz: ∀(k:Nat) {l:List Nat},l.Nodup->(∀ u∈l,u<k)->l.length<=k
 | 0,l,_,h=>by cases l with
  | nil=>simp
  | cons a l=>exact absurd (h a mC) om
 | k+1,l,hn,h=>by
  by_cases e:k∈l
  .have h1:=Jzz k (l:=l.erase k) (hn.erase k) λu hu=>by
    have h2:=h u (List.mem_of_mem_erase hu);have h3:u≠k:=λe=>by subst e;exact(List.Nodup.mem_erase_iff hn).1 hu |>.1 rfl
    omega
   rw[List.length_erase_of_mem e]at h1;omega
  have:=Jzz k hn λu hu=>by
   have h2:=h u hu;have h3:u≠k:=λe'=>by subst e';exact e hu
   omega
  omega
theorem Run.short{T:Nat->QT}{R C:Nat->Nat}(h:Run m n K T R C): K<n^m:=by
 rcases Nat.lt_or_ge K (n^m) with h1|h1
 .exact h1
 exfalso
 have y:∀ k,k<=K->∀ i,i<m->(T k).β i<n:=λk D i hi=>(h.wf D).lt i hi;have O:=Jzz (n^m) (l:=(List.range (K+1)).map λk=>cod n (T k).β m) (by
  unfold List.Nodup;rw[List.pairwise_map];refine List.pairwise_iff_getElem.2 λi j hi J F=>?_;simp only[List.length_range]at hi J;simp only[List.getElem_range];intro e;exact h.cycle F om (Jrp (y i om) (y j om) e)) (λu G=>by
  obtain⟨k,D,rfl⟩:=List.mem_map.1 G;exact Jrn (y k (by have:=List.mem_range.1 D;omega)))
 simp at O;omega
end Go.Proofs.YtebiphhfkdbpfaaGreat.Bl
