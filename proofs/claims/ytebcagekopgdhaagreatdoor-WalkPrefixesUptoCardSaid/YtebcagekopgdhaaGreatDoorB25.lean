/- Part 25. -/
import Derived.Test.YtebcagekopgdhaaGreatDoorB24
set_option linter.unusedVariables false
set_option maxRecDepth 100000
set_option maxHeartbeats 40000000
namespace Go.Proofs.YtebcagekopgdhaaGreatDoor
open Go.RowKit Pl Go.Wk
attribute [local irreducible] WC WL QX WD WDB WP WN WG
def RowG(w:World)(cs:List Value)(z:Row): Prop:=∃ v,cs=[v]/\RowV w v z
theorem Jmx: ∀ (ps:List (List Value×Row)) (w:World),(∀ p∈ps,RowG w p.1 p.2)->∃ qs:List Pr,qs.map (·.2)=ps.map (·.2)/\qs.map (·.1)=Qj ps/\qs.length=ps.length/\∀ q∈qs,RowV w q.1 q.2
 | [],w,_=>⟨[],rfl,rfl,rfl,λq hq=>by cases hq⟩
 | p::ps,w,h=>by
  obtain ⟨qs,h1,h2,h3,h4⟩:=Jmx ps w λq hq=>h q (List.mem_cons_of_mem _ hq);obtain ⟨v,e,hr⟩:=h p (mC ..);refine ⟨(v,p.2)::qs,by simp [h1],?_,by simp [h3],λq hq=>?_⟩
  .simp only [Qj,List.flatMap_cons,List.map_cons,e]at h2 ⊢;rw [h2];rfl
  .rcases List.mem_cons.1 hq with rfl|hq
   .exact hr
   .exact h4 q hq
theorem Qyb{w:World}{v:Value}{ls:List Row}(h:GV 1 RowG w v ls): RowsV w v ls:=by
 obtain ⟨ps,A,c,e,G,C,u,o,O⟩:=h;obtain ⟨J,h1,h2,h3,Z⟩:=Jmx ps w λp U=>(O p U).2;rw [<-h3]at G C u o;exact ⟨J,A,c,by rw [e,h1],G,C,u,by rw [h2];exact o,Z⟩
def YM(b:Nat)(base:Nat)(l:List Row)(w:World): Prop:=b<base/\∃ v,Blk w b 54 [v]/\OwnG 37 1 RowG w base v l
theorem Qdw{s b:Nat}(hb:b<s): YZ s (.func (.func 166) #[] #[.pointer (some ⟨b,0,none⟩)]) (λk=>k=b) (YM b):=by
 refine ⟨λbase l w w' h hg=>?_,_,_,_,rfl,λbase l w w1 vr z G h hx hr hl=>?_⟩
 .obtain ⟨C,v,hB,hO⟩:=h;exact ⟨C,v,Jd hB hg (λe=>om),hO.gr hg λk hk=>hk.2⟩
 obtain ⟨C,v,hB,hO⟩:=h;have U:=hB.ext hx;have J:=hO.ext hx;obtain ⟨RA,rn,rc,a6,_,_,_⟩:∃ A n c,vr=.slice A n c/\True/\True/\True:=by obtain ⟨A,c,e,_⟩:=hr;exact ⟨A,_,c,e,trivial,trivial,trivial⟩
 refine Jz Tryz.func166 Tryz.ntmps166 rfl kr rfl ?_;refine ρ ?_;refine ld (U.at (i:=0) rfl) ?_;refine ρ ?_;refine bsl (cs:=[vr]) (λw=>Jvx vr w RA rn rc a6) ?_;intro w2 b2 o af ab;obtain ⟨_,_,_,_,hf⟩:=J.form;have hΦ:Off (Qn base v) w2 (λu=>RowG u [vr] z):=((hr.off.mono λk hk h=>by
  rcases h with h|h
  .omega
  .obtain ⟨_,_,_,_,a9⟩:=hO.form;exact (a9 k h).2).imp λu h=>⟨vr,rfl,h⟩).ext o
 refine ρ ?_;refine apG ER (Φ:=RowG) (J.ext o) ab rfl (λu hu=>by rw [List.mem_singleton.1 hu,a6];rfl) hΦ om om (nL G (hx.trans o).size) ?_;intro v3 Z a4 a3 ac;obtain ⟨A3,c3,e3,ae,ad⟩:=a4.form;have a1:GrN (λk=>k=b∨base<=k) w1 Z:=(GrN.ext o).trans (GrN.by a3 λk ek=>.inr (hf k ek).1);have a7:some b≠v.ownBlock:=by
  obtain ⟨ps,_,ho,_⟩:=J;exact U.ne_own ho rfl
 have O:Blk Z b 54 [v]:=(U.ext o).grown a3 a7;refine ρ ?_;refine sto (p:=⟨b,0,none⟩) (O.cell 0) (O.frozen _) ?_ (hv:=by rw [e3];rfl);have a5:=O.set 0 v3;have a2:GrN (λk=>k=b) Z (Z.setCell ⟨b,0,none⟩ v3):=GrN.set _ rfl;refine ρ ?_;have a8:(l++[z]).length=l.length+1:=by simp
 rw [a8]at e3;refine ld (v:=.slice A3 (l.length+1) c3) ((a5.at (i:=0) rfl).trans (by simp [e3])) ?_;refine ρ ?_;have aa:OwnG 37 1 RowG (Z.setCell ⟨b,0,none⟩ v3) base v3 (l++[z]):=a4.gr a2 λk hk=>by omega
 refine Jj ⟨?_,⟨C,v3,a5,aa⟩,a1.trans (a2.mono λk _ hk=>.inl hk)⟩;rw [decide_eq_true (show ((l.length+1:Nat):Int)<=65536 by omega)]
theorem Qnv(z:Int)(A:Option Addr)(n c:Nat)(w:World): (Instr.build 99 #[(1,.agg #[.int .i64 z,.slice A n c])]).run Tryz.prog w=.ok (.agg #[.slice none 0 0,.int .i64 z,.slice A n c]) w:=kr
theorem Qdx{w:World}{b:Nat}{Na:Option Addr}{nums:List Nat}{t:V3}{vars:List Nat}{ar:Nat}{rs:List Row}(hA:AtV w t ⟨nz vars,ar,rs⟩)(hB:Blk w b 44 [.slice Na nums.length nums.length])(hN:Rd w 1 Na nums.length (Js (nz nums)))(hlt:∀ v∈vars,v<nums.length)(hl:vars.length<=1000):
  Ret Tryz.prog 163 [.agg t.cells.toArray,.pointer (some ⟨b,0,none⟩)] w λu w'=>Ext w w'/\∃ v1,u=.agg #[v1,t.2.1,t.2.2]/\Off (λk=>k<w.heap.size) w' (λx=>IntsV x v1 (nz (vars.map λv=>nums.getD v 0))):=by
 obtain ⟨t1,t2,t3⟩:=t;obtain ⟨⟨D,d,e1,hd,bf,an⟩,e2,ae⟩:=id hA;simp only at e1 e2;subst e1;subst e2;obtain ⟨ps,G,gc,_,ai,_⟩:=id ae;simp only at ai;subst ai;have bo:=Qq vars;have am:Rd w 1 D (nz vars).length (Js (nz vars)):=an;clear an hd bf;refine Jz Tryz.func163 Tryz.ntmps163 rfl kr rfl ?_;refine ρ ?_;refine bx ?_;intro w1 b1 ab bu b4;refine ρ ?_;refine alc Vl ?_;intro w2 b2 a5 bt ax;refine ρ ?_;refine lds (cs:=[.int .i64 (ar:Int),.slice G ps.length gc]) ((b4.ext a5).sub2 (i:=1) rfl rfl) ?_;refine ρ ?_;refine bld (Qnv _ _ _ _ _) ?_;refine ρ ?_;refine alc Vl ?_;intro w3 b3 b9 bh bm;refine ρ ?_;refine stb (cs':=[.slice none 0 0,.int .i64 (ar:Int),.slice G ps.length gc]) bm ?_ (λu hu=>by
  simp only [List.mem_cons,List.not_mem_nil,or_false]at hu;rcases hu with rfl|rfl|rfl<;>rfl)
 intro w4 bl br b8;have a3:Ext w2 w4:=b8 w2 b9 bh;have af:Ext w w4:=(ab.trans a5).trans a3;have ay:=(b4.ext a5).ext a3;have aw:=ax.ext a3;refine ρ ?_;refine ld (ay.at (i:=0) rfl) ?_;refine ρ ?_;refine Jt (fun (k:Nat) (vv:Value)=>[(1,.pointer (some ⟨b,0,none⟩)),(3,.pointer (some ⟨b2,0,none⟩)),(4,.pointer (some ⟨b3,0,none⟩)),(11,.slice D (nz vars).length d),(12,.int .i64 ((nz vars).length:Int)),(13,.int .i64 (k:Int))])
  (λk vv w'=>k<=vars.length/\Ext w w'/\Blk w' b2 99 [.slice none 0 0,.int .i64 0,.slice none 0 0]/\Blk w' b3 99 [vv,.int .i64 (ar:Int),.slice G ps.length gc]/\Xt w' w.heap.size vv ((vars.take k).map λv=>nums.getD v 0)) (λk _=>vars.length-k) 0 (.slice none 0 0) sB
  ⟨Nat.zero_le _,af,aw,bl,Xs _ _ _ _⟩ ?_
 rintro k vv w5 ⟨hk,a1,Z,aa,a2⟩;refine ρ ?_;refine ci (λh=>?_) (λh=>?_)
 .have lk:k<vars.length:=by have:=oT h;omega
  clear h;have aq:=am.ext a1;have ag:=hlt _ (getD_mem' 0 _ lk);obtain ⟨own,J⟩:∃ own,own=vv.ownBlock:=⟨_,rfl⟩;have ak:∀ j,own=some j->w.heap.size<=j:=λj ej=>by
   obtain ⟨_,_,_,_,hf⟩:=Jv a2;exact (hf j (by rw [<-J];exact ej)).1
  have bq:((vars.take k).map λv=>nums.getD v 0).length<=1000:=by simp;omega
  refine ρ ?_;refine ix k aq om ?_;refine ρ ?_;refine ld (aq.cell (Xh lk)) ?_;refine ρ ?_;refine drN (one own) 8 [(0,0),(0,1),(0,2),(0,3),(0,4),(0,5),(1,6),(1,7),(0,8),(2,9)] kr ?_;have C:Ext w5 w5.drew:=(Ext.refl w5).drew;have O:=aa.ext C;have bi:=hB.ext (a1.trans C);have ap:=hN.ext (a1.trans C);have a6:=Jk a2 C;have n3:¬ one own b3:=λe=>O.ne_own a6 rfl (by rw [<-J];exact e.symm);have a9:∀ {g:Nat},g<w.heap.size->¬ one own g:=λhg e=>by have:=ak _ e;omega
  refine ρn ?_;refine nld (Jm (O.at (i:=0) rfl) n3) ?_;refine ρn ?_;refine nld (Jm (bi.at (i:=0) rfl) (a9 hB.lt)) ?_;refine ρn ?_;refine nix (vars.getD k 0) ap ag ?_;refine ρn ?_;refine nld (λw' hg=>(Zo ap hg (λh0 ad e=>a9 (by
   obtain ⟨bv,e',aj,_⟩:=hN.2 h0;rw [e]at e';injection e' with e';subst e';exact aj))).cell (Xh ag)) ?_
  refine ρn ?_;refine nop ?_;refine bsl (bs1Int'' _) ?_;intro w6 b6 o bs bj;refine ρ ?_;refine Je (GrN.ext o) ?_;refine nop ?_;refine apI (Jk a6 o) bj om (((a1.trans C).trans o).size) ?_;intro a4 w7 ac a7 bp;refine ρ ?_;refine Je (GrN.by a7 λj ej=>by rw [<-J]at ej;exact ej) ?_;refine ρn ?_;refine Xv ?_;have U:=(O.ext o).grown a7 ((O.ext o).ne_own (Jk a6 o) rfl);have au:=((Z.ext C).ext o).grown a7 (((Z.ext C).ext o).ne_own (Jk a6 o) rfl);have b7:Ext w w7:=Qv ((a1.trans C).trans o) a7 (λj ej=>ak j (by rw [J];exact ej));have bn:a4.oneCell'=true:=by obtain ⟨_,_,e,_⟩:=Jv ac;rw [e];rfl
  refine sto (p:=⟨b3,0,none⟩) (U.cell 0) (U.frozen _) ?_ (hv:=bn);have bd:GrN (λk=>k=b3) w7 (w7.setCell ⟨b3,0,none⟩ a4):=GrN.set _ rfl;have bg:w.heap.size<=b3:=by have:=(ab.trans a5).size;omega
  refine ω5 ?_;refine Us ?_;refine ρn ?_;refine ρ ?_;refine Jg (k+1) a4 sO ⟨om,b7.setCell bg _,au.far (by simp only;have:=ax.lt;omega) _,U.set 0 a4,?_⟩ om;rw [Qy 0 lk,List.map_append];exact Jr ac bd (λg eg e=>by subst e;exact U.ne_own ac rfl eg.symm)
 have bc:k=vars.length:=by have:=oF h;omega
 subst bc;clear h;rw [List.take_length]at a2;obtain ⟨VA,b5,a8,ah,ba⟩:=Jv a2;rw [List.length_map]at a8 ah;refine ρ ?_;refine ldW aa ?_;refine ρ ?_;refine stb (cs':=[vv,.int .i64 (ar:Int),.slice G ps.length gc]) Z ?_ (λu hu=>by
  simp only [List.mem_cons,List.not_mem_nil,or_false]at hu;rcases hu with rfl|rfl|rfl
  .rw [a8];rfl
  .rfl
  .rfl)
 intro w6 av be o;refine ρ ?_;have ao:w.heap.size<=b2:=by have:=ab.size;omega
 refine Jqv av ⟨o w a1 ao,vv,rfl,?_⟩;have bb:Xt w6 w.heap.size vv (vars.map λv=>nums.getD v 0):=Jr a2 (GrN.by be λg eg=>eg) (λg eg e=>by injection e with e;subst e;exact Z.ne_own a2 rfl eg.symm);refine (Jjx bb (λg eg hk=>by have:=(ba g eg).1;omega)).imp λx h=>⟨VA,b5,by rw [Qq,List.length_map];exact a8,by rw [Qq,List.length_map];exact ah,by rw [Qq,List.length_map];omega,?_⟩;rw [a8]at h;rw [Qq,List.length_map];simp only [List.length_map]at h;exact Rd.own h
end Go.Proofs.YtebcagekopgdhaaGreatDoor
namespace Go.Proofs.YtebcagekopgdhaaGreatDoor
open Pl Go.Wk
def bk(s v:Nat): List Nat:=(List.range v).filter λu=>s.testBit u
theorem bk_mem{s v u:Nat}: u∈bk s v↔u<v/\s.testBit u=true:=by simp [bk]
theorem Uy(s v:Nat): bk s (v+1)=bk s v++if s.testBit v then [v] else []:=by
 unfold bk;rw [List.range_succ,List.filter_append];congr 1
 by_cases h:s.testBit v=true
 .rw [if_pos h];simp only [List.filter_cons,List.filter_nil,h,if_true]
 .rw [if_neg h];simp only [List.filter_cons,List.filter_nil,h];rfl
theorem Ia(s v:Nat): Qo (bk s v):=List.Pairwise.sublist List.filter_sublist List.pairwise_lt_range
theorem Vu(s v:Nat): (bk s v).length<=v:=by
 have:=List.length_filter_le (λu=>s.testBit u) (List.range v);rw [List.length_range]at this;exact this
theorem Jrj(s n:Nat): ∀ u,u<=n->lv (bk s n) u=(bk s u).length
 | 0,_=>by rw [Jzf];rfl
 | u+1,h=>by
  have ih:=Jrj s n u om;rw [Uy,List.length_append,<-ih];by_cases hb:s.testBit u=true
  .rw [if_pos hb,(Vd (Ia s n) (bk_mem.2 ⟨om,hb⟩)).1];rfl
  .rw [if_neg hb,Ih (λh'=>hb (bk_mem.1 h').2)];rfl
theorem Jcv{vs:List Nat}(ha:Qo vs){k:Nat}(hk:k<vs.length): lv vs (vs.getD k 0)=k:=by
 obtain ⟨_,o,u⟩:=Vd ha (getD_mem' 0 vs hk);exact Jpr (Qxg ha) o hk ((Jp 0 vs o).symm.trans (u.trans (Jp 0 vs hk)))
theorem Jxj{s n:Nat}(hs:s<2^n){u:Nat}(h:s.testBit u=true): u<n:=by
 rcases Nat.lt_or_ge u n with h'|h'
 .exact h'
 .rw [Nat.testBit_lt_two_pow (nM hs (Nat.pow_le_pow_right (n:=2) (by decide) h'))]at h;cases h
def Xo(s v:Nat): List Nat:=(List.range 32).map λu=>if u<v/\s.testBit u=true then (bk s u).length else 0
theorem Jqd(s v:Nat): (Xo s v).length=32:=by simp [Xo]
theorem Qcw{s u:Nat}(hu:u<32)(h:s.testBit u=true): (Xo s 32).getD u 0=lv (bk s 32) u:=by
 rw [Jrj s 32 u om];simp [Xo,List.getD,hu,h]
theorem Jpp{s v:Nat}(hv:v<32): Xo s (v+1)=if s.testBit v then (Xo s v).set v (bk s v).length else Xo s v:=by
 apply List.ext_getElem?
 intro i;by_cases h:s.testBit v=true
 .rw [if_pos h,List.getElem?_set];by_cases e:v=i
  .subst e;rw [if_pos rfl,if_pos (by rw [Jqd];exact hv)];simp [Xo,hv,h]
  .rw [if_neg e];by_cases hi:i<32
   .simp only [Xo,List.getElem?_map,List.getElem?_range hi,Option.map_some];congr 1
    have:(i<v+1/\s.testBit i=true)↔(i<v/\s.testBit i=true):=by constructor<;>(rintro ⟨a,b⟩;exact ⟨om,b⟩)
    simp only [this]
   .simp [Xo,hi]
 .rw [if_neg h];by_cases hi:i<32
  .simp only [Xo,List.getElem?_map,List.getElem?_range hi,Option.map_some];congr 1
   have:(i<v+1/\s.testBit i=true)↔(i<v/\s.testBit i=true):=by
    constructor
    .rintro ⟨a,b⟩;refine ⟨?_,b⟩;rcases Nat.lt_or_ge i v with h'|h'
     .exact h'
     .have:i=v:=om
      subst this;exact absurd b h
    .rintro ⟨a,b⟩;exact ⟨om,b⟩
   simp only [this]
  .simp [Xo,hi]
def rnm(vars:List Nat)(s:Nat): List Nat:=(inS vars s).map λv=>lv (bk s 32) v
theorem inS_mem{vars:List Nat}{s v:Nat}: v∈inS vars s↔v∈vars/\s.testBit v=true:=by simp [inS]
theorem Qgr{vars:List Nat}{s:Nat}(h:Qo vars): Qo (inS vars s):=List.Pairwise.sublist List.filter_sublist h
theorem Qff{vs:List Nat}(ha:Qo vs){u v:Nat}(hu:u∈vs)(h:u<v): lv vs u<lv vs v:=by
 have o:=(Vd ha hu).1;have mono:∀ k,lv vs (u+1)<=lv vs (u+1+k):=by
  intro k;induction k with
  | zero=>exact Nat.le_refl _
  | succ k ih=>
   by_cases h:u+1+k∈vs
   .have:=(Vd ha h).1;rw [<-Nat.add_assoc,this];omega
   .rw [<-Nat.add_assoc,Ih h];exact ih
 have:=mono (v-(u+1));rw [show u+1+(v-(u+1))=v by omega]at this;omega
theorem Qyj{vars:List Nat}{s:Nat}(h:Qo vars)(hl:∀ v∈vars,v<32): Qo (rnm vars s):=by
 unfold rnm Qo;rw [List.pairwise_map];refine List.Pairwise.imp_of_mem (fun {u v} hu hv huv=>?_) (Qgr (s:=s) h);exact Qff (Ia s 32) (bk_mem.2 ⟨hl u (inS_mem.1 hu).1,(inS_mem.1 hu).2⟩) huv
theorem Qyh{vars:List Nat}{s:Nat}(hl:∀ v∈vars,v<32){k:Nat}(hk:k∈rnm vars s): k<(bk s 32).length:=by
 obtain ⟨v,o,rfl⟩:=List.mem_map.1 hk;obtain ⟨C,u⟩:=inS_mem.1 o;exact (Vd (Ia s 32) (bk_mem.2 ⟨hl v C,u⟩)).2.1
theorem Jnf(vars:List Nat)(s:Nat): (rnm vars s).length=(inS vars s).length:=by simp [rnm]
def Ge(m:Nat)(vars:Nat->List Nat)(rs:Nat->List Row)(s:Nat)(z:Row): Prop:=∀ i,i<m->∃ r∈rs i,∀ j,j<(vars i).length->s.testBit ((vars i).getD j 0)=true->r.getD j V0=z.getD ((vars i).getD j 0) V0
theorem Jfh{vars:List Nat}{s:Nat}{r z:Row}(hr:r.length=vars.length): ∀ k,k<=vars.length->(pmR (Xl vars s k) r=pmR (inS (vars.take k) s) z↔∀ j,j<k->s.testBit (vars.getD j 0)=true->r.getD j V0=z.getD (vars.getD j 0) V0)
 | 0,_=>by simp [Xl,inS,pmR]
 | k+1,h=>by
  have ih:=Jfh (s:=s) (z:=z) hr k om;have hcl:=Jzz vars s k om;rw [Gt,Jzl om];by_cases hb:s.testBit (vars.getD k 0)=true
  .rw [if_pos hb,if_pos hb];have e1:pmR (Xl vars s k++[k]) r=pmR (Xl vars s k) r++[r.getD k V0]:=by simp [pmR]
   have e2:pmR (inS (vars.take k) s++[vars.getD k 0]) z=pmR (inS (vars.take k) s) z++[z.getD (vars.getD k 0) V0]:=by simp [pmR]
   rw [e1,e2];constructor
   .intro he j hj hbj;obtain ⟨h1,h2⟩:=List.append_inj he (by rw [Qh,Qh,hcl]);by_cases e:j=k
    .subst e;injection h2
    .exact ih.1 h1 j om hbj
   .intro hall;rw [ih.2 λj hj=>hall j om,hall k om hb]
  .rw [if_neg hb,if_neg hb,List.append_nil,List.append_nil,ih];constructor
   .intro hall j hj hbj;by_cases e:j=k
    .subst e;exact absurd hbj hb
    .exact hall j om hbj
   .exact λhall j hj=>hall j om
theorem Qdv{n m:Nat}{vars:Nat->List Nat}{rs ms:Nat->List Row}{s:Nat}(hs:s<2^n)(hn:n<=32)(hlt:∀ i,i<m->∀ v∈vars i,v<n)(hlen:∀ i,i<m->∀ r∈rs i,r.length=(vars i).length)(hms:∀ i,i<m->∀ x,x∈ms i↔x∈(rs i).map (pmR (Qg (vars i) s)))(x:Row):
  Zr (bk s 32).length m (λi=>rnm (vars i) s) ms x↔∃ z:Row,z.length=n/\x=pmR (bk s 32) z/\Ge m vars rs s z:=by
 have key:∀ z:Row,∀ i,i<m->(pmR (rnm (vars i) s) (pmR (bk s 32) z)∈ms i↔∃ r∈rs i,∀ j,j<(vars i).length->s.testBit ((vars i).getD j 0)=true->r.getD j V0=z.getD ((vars i).getD j 0) V0):=λz i hi=>by
  have e:pmR (rnm (vars i) s) (pmR (bk s 32) z)=pmR (inS (vars i) s) z:=by
   unfold rnm pmR;rw [List.map_map];refine List.map_congr_left λv hv=>?_;obtain ⟨h1,C⟩:=inS_mem.1 hv;have U:v∈bk s 32:=bk_mem.2 ⟨by have:=hlt i hi v h1;omega,C⟩;obtain ⟨_,Z,h5⟩:=Vd (Ia s 32) U;have:=Jwn (r:=z) Z;unfold pmR at this;simp only [Function.comp];rw [this,h5]
  rw [e,hms i hi,List.mem_map];have hk:∀ r∈rs i,(pmR (Qg (vars i) s) r=pmR (inS (vars i) s) z↔∀ j,j<(vars i).length->s.testBit ((vars i).getD j 0)=true->r.getD j V0=z.getD ((vars i).getD j 0) V0):=λr o=>by
   have:=Jfh (s:=s) (z:=z) (hlen i hi r o) (vars i).length (Nat.le_refl _);rw [List.take_length]at this;exact this
  constructor
  .rintro ⟨r,o,e⟩;exact ⟨r,o,(hk r o).1 e⟩
  .rintro ⟨r,o,h⟩;exact ⟨r,o,(hk r o).2 h⟩
 constructor
 .rintro ⟨hl,hx⟩;let z:Row:=(List.range n).map λu=>x.getD (lv (bk s 32) u) V0
  have G:z.length=n:=by simp [z]
  have J:x=pmR (bk s 32) z:=by
   apply List.ext_getElem
   .rw [Qh];exact hl
   .intro k h1 C;rw [Qh]at C;have hu:=bk_mem.1 (getD_mem' 0 _ C);have O:=Jxj hs hu.2;have h3:=Jpd (z:=z) C;rw [Jp V0 _ (by rw [Qh];exact C)]at h3;rw [h3];have Z:z.getD ((bk s 32).getD k 0) V0=x.getD (lv (bk s 32) ((bk s 32).getD k 0)) V0:=by
     simp only [z,List.getD];rw [List.getElem?_map,List.getElem?_range (by simpa [List.getD] using O)];rfl
    rw [Z,Jcv (Ia s 32) C,Jp V0 _ h1]
  refine ⟨z,G,J,λi hi=>?_⟩;have:=hx i hi;rw [J]at this;exact (key z i hi).1 this
 .rintro ⟨z,G,rfl,U⟩;exact ⟨Qh _ _,λi hi=>(key z i hi).2 (U i hi)⟩
end Go.Proofs.YtebcagekopgdhaaGreatDoor
