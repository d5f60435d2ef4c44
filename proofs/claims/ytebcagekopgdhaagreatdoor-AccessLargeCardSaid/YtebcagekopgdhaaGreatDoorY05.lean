/- Part 5. -/
import Derived.Test.YtebcagekopgdhaaGreatDoorY04
import Derived.Laws.CopyRow
import Derived.Test.YtebcagekopgdhaaGreatDoorSh
import Derived.Lib.AppendStr
import Derived.Lib.ItoaLen
set_option linter.unusedVariables false
set_option maxRecDepth 100000
set_option maxHeartbeats 40000000
namespace Go.Proofs.YtebcagekopgdhaaGreatDoor
open Go.RowKit Pl Go.Wk
attribute [local irreducible] WC WL QX WD WDB WP WN WG
variable {nums vars:List Nat}{ls rs:List Row}{ar b s:Nat}{w:World}
def Jzc(w:World)(cs:List Value)(z:Row): Prop:=∃ v,cs=[v]/\RowV w v z
theorem Jpj: ∀ (ps:List (List Value×Row)) (w:World),(∀ p∈ps,Jzc w p.1 p.2)->∃ qs:List Pr,qs.map (·.2)=ps.map (·.2)/\qs.map (·.1)=Qj ps/\qs.length=ps.length/\∀ q∈qs,RowV w q.1 q.2
 | [],w,_=>⟨[],rfl,rfl,rfl,λq hq=>by cases hq⟩
 | p::ps,w,h=>by
  obtain ⟨qs,h1,h2,h3,h4⟩:=Jpj ps w λq hq=>h q (List.mem_cons_of_mem _ hq);obtain ⟨v,e,hr⟩:=h p (mC ..);refine ⟨(v,p.2)::qs,by simp [h1],?_,by simp [h3],λq hq=>?_⟩
  .simp only [Qj,List.flatMap_cons,List.map_cons,e]at h2 ⊢;rw [h2];rfl
  .rcases List.mem_cons.1 hq with rfl|hq
   .exact hr
   .exact h4 q hq
theorem Qck{v:Value}(h:GV 1 Jzc w v ls): RowsV w v ls:=by
 obtain ⟨ps,A,c,e,G,C,u,o,O⟩:=h;obtain ⟨J,h1,h2,h3,Z⟩:=Jpj ps w λp U=>(O p U).2;rw [<-h3]at G C u o;exact ⟨J,A,c,by rw [e,h1],G,C,u,by rw [h2];exact o,Z⟩
def YM(b:Nat)(base:Nat)(l:List Row)(w:World): Prop:=b<base/\∃ v,Blk w b 54 [v]/\OwnG 37 1 Jzc w base v l
theorem Qhl(hb:b<s): YZ s (.func (.func 166) #[] #[.pointer (some ⟨b,0,none⟩)]) (λk=>k=b) (YM b):=by
 refine ⟨λbase l w w' h hg=>?_,_,_,_,rfl,λbase l w w1 vr z G h hx hr hl=>?_⟩
 .obtain ⟨C,v,hB,hO⟩:=h;exact ⟨C,v,Jc hB hg (λe=>om),hO.gr hg λk hk=>hk.2⟩
 obtain ⟨C,v,hB,hO⟩:=h;have U:=hB.ext hx;have J:=hO.ext hx;obtain ⟨RA,rn,rc,a6,_,_,_⟩:∃ A n c,vr=.slice A n c/\True/\True/\True:=by obtain ⟨A,c,e,_⟩:=hr;exact ⟨A,_,c,e,trivial,trivial,trivial⟩
 refine Jz Tryz.func166 Tryz.ntmps166 rfl kr rfl ?_;refine ρ ?_;refine ld (U.at (i:=0) rfl) ?_;refine ρ ?_;refine bsl (cs:=[vr]) (λw=>Jwg vr w RA rn rc a6) ?_;intro w2 b2 o af ab;obtain ⟨_,_,_,_,hf⟩:=J.form;have hΦ:Off (Qs base v) w2 (λu=>Jzc u [vr] z):=((hr.off.mono λk hk h=>by
  rcases h with h|h
  .omega
  .obtain ⟨_,_,_,_,a9⟩:=hO.form;exact (a9 k h).2).imp λu h=>⟨vr,rfl,h⟩).ext o
 refine ρ ?_;refine apG ER (Φ:=Jzc) (J.ext o) ab rfl (λu hu=>by rw [List.mem_singleton.1 hu,a6];rfl) hΦ om om (nL G (hx.trans o).size) ?_;intro v3 Z a4 a3 ac;obtain ⟨A3,c3,e3,ae,ad⟩:=a4.form;have a1:GrN (λk=>k=b∨base<=k) w1 Z:=(GrN.ext o).trans (GrN.by a3 λk ek=>.inr (hf k ek).1);have a7:some b≠v.ownBlock:=by
  obtain ⟨ps,_,ho,_⟩:=J;exact U.ne_own ho rfl
 have O:Blk Z b 54 [v]:=(U.ext o).grown a3 a7;refine ρ ?_;refine sto (p:=⟨b,0,none⟩) (O.cell 0) (O.frozen _) ?_ (hv:=by rw [e3];rfl);have a5:=O.set 0 v3;have a2:GrN (λk=>k=b) Z (Z.setCell ⟨b,0,none⟩ v3):=GrN.set _ rfl;refine ρ ?_;have a8:(l++[z]).length=l.length+1:=by simp
 rw [a8]at e3;refine ld (v:=.slice A3 (l.length+1) c3) ((a5.at (i:=0) rfl).trans (by simp [e3])) ?_;refine ρ ?_;have aa:OwnG 37 1 Jzc (Z.setCell ⟨b,0,none⟩ v3) base v3 (l++[z]):=a4.gr a2 λk hk=>by omega
 refine Jj ⟨?_,⟨C,v3,a5,aa⟩,a1.trans (a2.mono λk _ hk=>.inl hk)⟩;rw [decide_eq_true (show ((l.length+1:Nat):Int)<=65536 by omega)]
theorem Qtx(z:Int)(A:Option Addr)(n c:Nat)(w:World): (Instr.build 99 #[(1,.agg #[.int .i64 z,.slice A n c])]).run Tryz.prog w=.ok (.agg #[.slice none 0 0,.int .i64 z,.slice A n c]) w:=kr
theorem Qhm{Na:Option Addr}{t:V3}(hA:AtV w t ⟨nz vars,ar,rs⟩)(hB:Blk w b 44 [.slice Na nums.length nums.length])(hN:Rd w 1 Na nums.length (Jt (nz nums)))(hlt:∀ v∈vars,v<nums.length)(hl:vars.length<=1000):
  Ret Tryz.prog 163 [.agg t.cells.toArray,.pointer (some ⟨b,0,none⟩)] w λu w'=>Ext w w'/\∃ v1,u=.agg #[v1,t.2.1,t.2.2]/\Off (λk=>k<w.heap.size) w' (λx=>IntsV x v1 (nz (vars.map λv=>nums.getD v 0))):=by
 obtain ⟨t1,t2,t3⟩:=t;obtain ⟨⟨D,d,e1,hd,bf,an⟩,e2,ae⟩:=id hA;simp only at e1 e2;subst e1;subst e2;obtain ⟨ps,G,gc,_,ai,_⟩:=id ae;simp only at ai;subst ai;have bp:=Qq vars;have am:Rd w 1 D (nz vars).length (Jt (nz vars)):=an;clear an hd bf;refine Jz Tryz.func163 Tryz.ntmps163 rfl kr rfl ?_;refine ρ ?_;refine bx ?_;intro w1 b1 ab bv b4;refine ρ ?_;refine alc Yj ?_;intro w2 b2 a5 bu ax;refine ρ ?_;refine lds (cs:=[.int .i64 (ar:Int),.slice G ps.length gc]) ((b4.ext a5).sub2 (i:=1) rfl rfl) ?_;refine ρ ?_;refine bld (Qtx _ _ _ _ _) ?_;refine ρ ?_;refine alc Yj ?_;intro w3 b3 b9 bh bn;refine ρ ?_;refine stb (cs':=[.slice none 0 0,.int .i64 (ar:Int),.slice G ps.length gc]) bn ?_ (λu hu=>by
  simp only [List.mem_cons,List.not_mem_nil,or_false]at hu;rcases hu with rfl|rfl|rfl<;>rfl)
 intro w4 bm bs b8;have a3:Ext w2 w4:=b8 w2 b9 bh;have af:Ext w w4:=(ab.trans a5).trans a3;have ay:=(b4.ext a5).ext a3;have aw:=ax.ext a3;refine ρ ?_;refine ld (ay.at (i:=0) rfl) ?_;refine ρ ?_;refine Ja (fun (k:Nat) (vv:Value)=>[(1,.pointer (some ⟨b,0,none⟩)),(3,.pointer (some ⟨b2,0,none⟩)),(4,.pointer (some ⟨b3,0,none⟩)),(11,.slice D (nz vars).length d),(12,.int .i64 ((nz vars).length:Int)),(13,.int .i64 (k:Int))])
  (λk vv w'=>k<=vars.length/\Ext w w'/\Blk w' b2 99 [.slice none 0 0,.int .i64 0,.slice none 0 0]/\Blk w' b3 99 [vv,.int .i64 (ar:Int),.slice G ps.length gc]/\Xu w' w.heap.size vv ((vars.take k).map λv=>nums.getD v 0)) (λk _=>vars.length-k) 0 (.slice none 0 0) sB
  ⟨Nat.zero_le _,af,aw,bm,Xo _ _ _ _⟩ ?_
 rintro k vv w5 ⟨hk,a1,Z,aa,a2⟩;refine ρ ?_;refine ci (λh=>?_) (λh=>?_)
 .have lk:k<vars.length:=by have:=oT h;omega
  clear h;have aq:=am.ext a1;have ag:=hlt _ (getD_mem' 0 _ lk);obtain ⟨own,J⟩:∃ own,own=vv.ownBlock:=⟨_,rfl⟩;have ak:∀ j,own=some j->w.heap.size<=j:=λj ej=>by
   obtain ⟨_,_,_,_,hf⟩:=Jv a2;exact (hf j (by rw [<-J];exact ej)).1
  have br:((vars.take k).map λv=>nums.getD v 0).length<=1000:=by simp;omega
  refine ρ ?_;refine ix k aq om ?_;refine ρ ?_;refine ld (aq.cell (Xn lk)) ?_;refine ρ ?_;refine drN (one own) 8 [(0,0),(0,1),(0,2),(0,3),(0,4),(0,5),(1,6),(1,7),(0,8),(2,9)] kr ?_;have C:Ext w5 w5.drew:=(Ext.refl w5).drew;have O:=aa.ext C;have bi:=hB.ext (a1.trans C);have ap:=hN.ext (a1.trans C);have a6:=Jk a2 C;have n3:¬ one own b3:=λe=>O.ne_own a6 rfl (by rw [<-J];exact e.symm);have a9:∀ {g:Nat},g<w.heap.size->¬ one own g:=λhg e=>by have:=ak _ e;omega
  refine ρn ?_;refine nld (Jm (O.at (i:=0) rfl) n3) ?_;refine ρn ?_;refine nld (Jm (bi.at (i:=0) rfl) (a9 hB.lt)) ?_;refine ρn ?_;refine nix (vars.getD k 0) ap ag ?_;refine ρn ?_;refine nld (λw' hg=>(Vv ap hg (λh0 ad e=>a9 (by
   obtain ⟨bw,e',aj,_⟩:=hN.2 h0;rw [e]at e';injection e' with e';subst e';exact aj))).cell (Xn ag)) ?_
  refine ρn ?_;refine nop ?_;refine bsl (bs1Int'' _) ?_;intro w6 b6 o bt bj;refine ρ ?_;refine Js (GrN.ext o) ?_;refine nop ?_;refine apI (Jk a6 o) bj om (((a1.trans C).trans o).size) ?_;intro a4 w7 ac a7 bq;refine ρ ?_;refine Js (GrN.by a7 λj ej=>by rw [<-J]at ej;exact ej) ?_;refine ρn ?_;refine Xd ?_;have U:=(O.ext o).grown a7 ((O.ext o).ne_own (Jk a6 o) rfl);have au:=((Z.ext C).ext o).grown a7 (((Z.ext C).ext o).ne_own (Jk a6 o) rfl);have b7:Ext w w7:=Qb ((a1.trans C).trans o) a7 (λj ej=>ak j (by rw [J];exact ej));have bo:a4.oneCell'=true:=by obtain ⟨_,_,e,_⟩:=Jv ac;rw [e];rfl
  refine sto (p:=⟨b3,0,none⟩) (U.cell 0) (U.frozen _) ?_ (hv:=bo);have bd:GrN (λk=>k=b3) w7 (w7.setCell ⟨b3,0,none⟩ a4):=GrN.set _ rfl;have bg:w.heap.size<=b3:=by have:=(ab.trans a5).size;omega
  refine ω5 ?_;refine Gw ?_;refine ρn ?_;refine ρ ?_;refine Jl (k+1) a4 sO ⟨om,b7.setCell bg _,au.far (by simp only;have:=ax.lt;omega) _,U.set 0 a4,?_⟩ om;rw [Qy 0 lk,List.map_append];exact Jr ac bd (λg eg e=>by subst e;exact U.ne_own ac rfl eg.symm)
 have bc:k=vars.length:=by have:=oF h;omega
 subst bc;clear h;rw [List.take_length]at a2;obtain ⟨VA,b5,a8,ah,ba⟩:=Jv a2;rw [List.length_map]at a8 ah;refine ρ ?_;refine ldW aa ?_;refine ρ ?_;refine stb (cs':=[vv,.int .i64 (ar:Int),.slice G ps.length gc]) Z ?_ (λu hu=>by
  simp only [List.mem_cons,List.not_mem_nil,or_false]at hu;rcases hu with rfl|rfl|rfl
  .rw [a8];rfl
  .rfl
  .rfl)
 intro w6 av be o;refine ρ ?_;have ao:w.heap.size<=b2:=by have:=ab.size;omega
 refine Jjl av ⟨o w a1 ao,vv,rfl,?_⟩;have bb:Xu w6 w.heap.size vv (vars.map λv=>nums.getD v 0):=Jr a2 (GrN.by be λg eg=>eg) (λg eg e=>by injection e with e;subst e;exact Z.ne_own a2 rfl eg.symm);refine (Jqs bb (λg eg hk=>by have:=(ba g eg).1;omega)).imp λx h=>⟨VA,b5,by rw [Qq,List.length_map];exact a8,by rw [Qq,List.length_map];exact ah,by rw [Qq,List.length_map];omega,?_⟩;rw [a8]at h;rw [Qq,List.length_map];simp only [List.length_map]at h;exact Rd.own h
end Go.Proofs.YtebcagekopgdhaaGreatDoor
namespace Go.Proofs.YtebcagekopgdhaaGreatDoor
open Pl Go.Wk
variable {vars vs:List Nat}{k m n s u v:Nat}
def bk(s v:Nat): List Nat:=(List.range v).filter λu=>s.testBit u
theorem bk_mem: u∈bk s v↔u<v/\s.testBit u=true:=by simp [bk]
theorem Ut(s v:Nat): bk s (v+1)=bk s v++if s.testBit v then [v] else []:=by
 unfold bk;rw [List.range_succ,List.filter_append];congr 1
 by_cases h:s.testBit v=true
 .rw [if_pos h];simp only [List.filter_cons,List.filter_nil,h,if_true]
 .rw [if_neg h];simp only [List.filter_cons,List.filter_nil,h];rfl
theorem Jjp(s v:Nat): Qo (bk s v):=List.Pairwise.sublist List.filter_sublist List.pairwise_lt_range
theorem Yy(s v:Nat): (bk s v).length<=v:=by
 have:=List.length_filter_le (λu=>s.testBit u) (List.range v);rw [List.length_range]at this;exact this
theorem Jsv(s n:Nat): ∀ u,u<=n->lv (bk s n) u=(bk s u).length
 | 0,_=>by rw [Jkb];rfl
 | u+1,h=>by
  have ih:=Jsv s n u om;rw [Ut,List.length_append,<-ih];by_cases hb:s.testBit u=true
  .rw [if_pos hb,(Vt (Jjp s n) (bk_mem.2 ⟨om,hb⟩)).1];rfl
  .rw [if_neg hb,Jjg (λh'=>hb (bk_mem.1 h').2)];rfl
theorem Jdv(ha:Qo vs)(hk:k<vs.length): lv vs (vs.getD k 0)=k:=by
 obtain ⟨_,o,u⟩:=Vt ha (getD_mem' 0 vs hk);exact Jsf (Qkf ha) o hk ((Jp 0 vs o).symm.trans (u.trans (Jp 0 vs hk)))
theorem Jxz(hs:s<2^n)(h:s.testBit u=true): u<n:=by
 rcases Nat.lt_or_ge u n with h'|h'
 .exact h'
 .rw [Nat.testBit_lt_two_pow (nM hs (Nat.pow_le_pow_right (n:=2) (by decide) h'))]at h;cases h
def Zq(s v:Nat): List Nat:=(List.range 32).map λu=>if u<v/\s.testBit u=true then (bk s u).length else 0
theorem Jqx(s v:Nat): (Zq s v).length=32:=by simp [Zq]
theorem Qgk(hu:u<32)(h:s.testBit u=true): (Zq s 32).getD u 0=lv (bk s 32) u:=by
 rw [Jsv s 32 u om];simp [Zq,List.getD,hu,h]
theorem Jsc(hv:v<32): Zq s (v+1)=if s.testBit v then (Zq s v).set v (bk s v).length else Zq s v:=by
 apply List.ext_getElem?
 intro i;by_cases h:s.testBit v=true
 .rw [if_pos h,List.getElem?_set];by_cases e:v=i
  .subst e;rw [if_pos rfl,if_pos (by rw [Jqx];exact hv)];simp [Zq,hv,h]
  .rw [if_neg e];by_cases hi:i<32
   .simp only [Zq,List.getElem?_map,List.getElem?_range hi,Option.map_some];congr 1
    have:(i<v+1/\s.testBit i=true)↔(i<v/\s.testBit i=true):=by constructor<;>(rintro ⟨a,b⟩;exact ⟨om,b⟩)
    simp only [this]
   .simp [Zq,hi]
 .rw [if_neg h];by_cases hi:i<32
  .simp only [Zq,List.getElem?_map,List.getElem?_range hi,Option.map_some];congr 1
   have:(i<v+1/\s.testBit i=true)↔(i<v/\s.testBit i=true):=by
    constructor
    .rintro ⟨a,b⟩;refine ⟨?_,b⟩;rcases Nat.lt_or_ge i v with h'|h'
     .exact h'
     .have:i=v:=om
      subst this;exact absurd b h
    .rintro ⟨a,b⟩;exact ⟨om,b⟩
   simp only [this]
  .simp [Zq,hi]
def rnm(vars:List Nat)(s:Nat): List Nat:=(inS vars s).map λv=>lv (bk s 32) v
theorem inS_mem: v∈inS vars s↔v∈vars/\s.testBit v=true:=by simp [inS]
theorem Qmn(h:Qo vars): Qo (inS vars s):=List.Pairwise.sublist List.filter_sublist h
theorem Qhs(ha:Qo vs)(hu:u∈vs)(h:u<v): lv vs u<lv vs v:=by
 have o:=(Vt ha hu).1;have mono:∀ k,lv vs (u+1)<=lv vs (u+1+k):=by
  intro k;induction k with
  | zero=>exact Nat.le_refl _
  | succ k ih=>
   by_cases h:u+1+k∈vs
   .have:=(Vt ha h).1;rw [<-Nat.add_assoc,this];omega
   .rw [<-Nat.add_assoc,Jjg h];exact ih
 have:=mono (v-(u+1));rw [show u+1+(v-(u+1))=v by omega]at this;omega
theorem Qcr(h:Qo vars)(hl:∀ v∈vars,v<32): Qo (rnm vars s):=by
 unfold rnm Qo;rw [List.pairwise_map];refine List.Pairwise.imp_of_mem (fun {u v} hu hv huv=>?_) (Qmn (s:=s) h);exact Qhs (Jjp s 32) (bk_mem.2 ⟨hl u (inS_mem.1 hu).1,(inS_mem.1 hu).2⟩) huv
theorem Qcq(hl:∀ v∈vars,v<32)(hk:k∈rnm vars s): k<(bk s 32).length:=by
 obtain ⟨v,o,rfl⟩:=List.mem_map.1 hk;obtain ⟨C,u⟩:=inS_mem.1 o;exact (Vt (Jjp s 32) (bk_mem.2 ⟨hl v C,u⟩)).2.1
theorem Jpn(vars:List Nat)(s:Nat): (rnm vars s).length=(inS vars s).length:=by simp [rnm]
def Kc(m:Nat)(vars:Nat->List Nat)(rs:Nat->List Row)(s:Nat)(z:Row): Prop:=∀ i,i<m->∃ r∈rs i,∀ j,j<(vars i).length->s.testBit ((vars i).getD j 0)=true->r.getD j V0=z.getD ((vars i).getD j 0) V0
theorem Jgp{vars:List Nat}{s:Nat}{r z:Row}(hr:r.length=vars.length): ∀ k,k<=vars.length->(pmR (Xp vars s k) r=pmR (inS (vars.take k) s) z↔∀ j,j<k->s.testBit (vars.getD j 0)=true->r.getD j V0=z.getD (vars.getD j 0) V0)
 | 0,_=>by simp [Xp,inS,pmR]
 | k+1,h=>by
  have ih:=Jgp (s:=s) (z:=z) hr k om;have hcl:=Jkx vars s k om;rw [Ky,Jkj om];by_cases hb:s.testBit (vars.getD k 0)=true
  .rw [if_pos hb,if_pos hb];have e1:pmR (Xp vars s k++[k]) r=pmR (Xp vars s k) r++[r.getD k V0]:=by simp [pmR]
   have e2:pmR (inS (vars.take k) s++[vars.getD k 0]) z=pmR (inS (vars.take k) s) z++[z.getD (vars.getD k 0) V0]:=by simp [pmR]
   rw [e1,e2];constructor
   .intro he j hj hbj;obtain ⟨h1,h2⟩:=List.append_inj he (by rw [Qm,Qm,hcl]);by_cases e:j=k
    .subst e;injection h2
    .exact ih.1 h1 j om hbj
   .intro hall;rw [ih.2 λj hj=>hall j om,hall k om hb]
  .rw [if_neg hb,if_neg hb,List.append_nil,List.append_nil,ih];constructor
   .intro hall j hj hbj;by_cases e:j=k
    .subst e;exact absurd hbj hb
    .exact hall j om hbj
   .exact λhall j hj=>hall j om
theorem Qhk{vars:Nat->List Nat}{rs ms:Nat->List Row}(hs:s<2^n)(hn:n<=32)(hlt:∀ i,i<m->∀ v∈vars i,v<n)(hlen:∀ i,i<m->∀ r∈rs i,r.length=(vars i).length)(hms:∀ i,i<m->∀ x,x∈ms i↔x∈(rs i).map (pmR (Ql (vars i) s)))(x:Row):
  Zk (bk s 32).length m (λi=>rnm (vars i) s) ms x↔∃ z:Row,z.length=n/\x=pmR (bk s 32) z/\Kc m vars rs s z:=by
 have key:∀ z:Row,∀ i,i<m->(pmR (rnm (vars i) s) (pmR (bk s 32) z)∈ms i↔∃ r∈rs i,∀ j,j<(vars i).length->s.testBit ((vars i).getD j 0)=true->r.getD j V0=z.getD ((vars i).getD j 0) V0):=λz i hi=>by
  have e:pmR (rnm (vars i) s) (pmR (bk s 32) z)=pmR (inS (vars i) s) z:=by
   unfold rnm pmR;rw [List.map_map];refine List.map_congr_left λv hv=>?_;obtain ⟨h1,C⟩:=inS_mem.1 hv;have U:v∈bk s 32:=bk_mem.2 ⟨by have:=hlt i hi v h1;omega,C⟩;obtain ⟨_,Z,h5⟩:=Vt (Jjp s 32) U;have:=Jzt (r:=z) Z;unfold pmR at this;simp only [Function.comp];rw [this,h5]
  rw [e,hms i hi,List.mem_map];have hk:∀ r∈rs i,(pmR (Ql (vars i) s) r=pmR (inS (vars i) s) z↔∀ j,j<(vars i).length->s.testBit ((vars i).getD j 0)=true->r.getD j V0=z.getD ((vars i).getD j 0) V0):=λr o=>by
   have:=Jgp (s:=s) (z:=z) (hlen i hi r o) (vars i).length (Nat.le_refl _);rw [List.take_length]at this;exact this
  constructor
  .rintro ⟨r,o,e⟩;exact ⟨r,o,(hk r o).1 e⟩
  .rintro ⟨r,o,h⟩;exact ⟨r,o,(hk r o).2 h⟩
 constructor
 .rintro ⟨hl,hx⟩;let z:Row:=(List.range n).map λu=>x.getD (lv (bk s 32) u) V0
  have G:z.length=n:=by simp [z]
  have J:x=pmR (bk s 32) z:=by
   apply List.ext_getElem
   .rw [Qm];exact hl
   .intro k h1 C;rw [Qm]at C;have hu:=bk_mem.1 (getD_mem' 0 _ C);have O:=Jxz hs hu.2;have h3:=Jrn (z:=z) C;rw [Jp V0 _ (by rw [Qm];exact C)]at h3;rw [h3];have Z:z.getD ((bk s 32).getD k 0) V0=x.getD (lv (bk s 32) ((bk s 32).getD k 0)) V0:=by
     simp only [z,List.getD];rw [List.getElem?_map,List.getElem?_range (by simpa [List.getD] using O)];rfl
    rw [Z,Jdv (Jjp s 32) C,Jp V0 _ h1]
  refine ⟨z,G,J,λi hi=>?_⟩;have:=hx i hi;rw [J]at this;exact (key z i hi).1 this
 .rintro ⟨z,G,rfl,U⟩;exact ⟨Qm _ _,λi hi=>(key z i hi).2 (U i hi)⟩
end Go.Proofs.YtebcagekopgdhaaGreatDoor
namespace Go.Wk
open Go.RowKit
variable {b n t ty:Nat}
theorem Ih{P:Program}{al:AL}{w:World}{Q:Exit->Act->World->Prop}{ops:Array Oper}{rest:List Oper}{pos:String}{aft:Array Edge}{tt:TT}[h:Tab P tt]{x y:Operand}{k:TK}{u v:Value}(hb:Blk w b t [u])(kk:∀ w1,Blk w1 b t [v]->w.grownBy w1 (some b)->(∀ a,Ext a w->a.heap.size<=b->Ext a w1)->WL P n ops Q rest al w1)(hv:v.oneCell'=true)(ht:tk tt t=some k:=by rfl)(hk:k.size=1:=by rfl)(hp:Vn k.desc=true:=by rfl)(hx:ev al x=some (.pointer (some ⟨b,0,none⟩)):=by rfl)(hy:ev al y=some v:=by rfl):
  WL P n ops Q (⟨none,.store t x y,ty,pos,aft,none⟩::rest) al w :=
 Jlb h.ok ht hk hp hx hy hv (hb.cell 0) (hb.frozen 0) (kk _ (hb.set 0 v) ⟨rfl,rfl,rfl,by simp [World.setCell],λk hk hn=>Below.heap_setCell w ⟨b,0,none⟩ v k (λe=>hn (by rw [e]))⟩ λa C o=>C.setCell o v)
end Go.Wk
namespace Go.Proofs.YtebcagekopgdhaaGreatDoor
open Go.RowKit Pl Go.Wk
attribute [local irreducible] WC WL QX WD WDB WP WN WG
variable {cs vs:List Nat}{ts ts':List TA}{base c ca n s:Nat}{vars:Nat->List Nat}{ms rs:Nat->List Row}{A Aa:Option Addr}{v:Value}{w:World}
structure MOk(n:Nat)(ts:List TA)(vars:Nat->List Nat)(rs:Nat->List Row)(s:Nat): Prop where
 run:RunOk n ts vars rs
 sb:s<2^n
 valid:∀ i,i<ts.length->∀ r∈rs i,r.all Qa=true
 srtP:∀ i,i<ts.length->(rs i).length<=1000∨Srt [] ((rs i).map (pmR (Ql (vars i) s)))
theorem Xjw(h:Qo vs): ascB (nz vs):=λj u o=>by
 rw [Qq]at o;rw [Jvz o,Jvz (show j-1<vs.length by omega)];have:=List.pairwise_iff_getElem.1 h (j-1) j om o om;simp only [List.getD,List.getElem?_eq_getElem o,List.getElem?_eq_getElem (show j-1<vs.length by omega),Option.getD_some];omega
theorem Jcx(h:RunOk n ts vars rs): Jwc n (ts.map (·.2)):=by
 have U:=h.n32;refine ⟨om,om,by rw [List.length_map];exact h.m32,λa O=>?_,λv o=>?_⟩
 .obtain ⟨t,ht,rfl⟩:=List.mem_map.1 O;obtain ⟨i,hi,e⟩:=List.getElem_of_mem ht;have C:=h.at_ i hi;rw [Jp ta0 ts hi,e]at C;rw [C];refine ⟨Xjw (h.asc i hi),λv o=>?_,by simp only;rw [Qq]⟩;obtain ⟨u,G,rfl⟩:=List.mem_map.1 o;have:=h.lt i hi u G;omega
 .obtain ⟨i,hi,J⟩:=h.cov v om;refine ⟨(ts.getD i ta0).2,List.mem_map_of_mem (getD_mem' ta0 ts hi),?_⟩;rw [h.at_ i hi];exact List.mem_map.2 ⟨v,J,rfl⟩
def AtG(w:World)(cs:List Value)(a:Atm): Prop:=∃ t:V3,cs=t.cells/\AtV w t a
theorem Qkb: ∀ (ps:List (List Value×Atm)) (w:World),(∀ p∈ps,AtG w p.1 p.2)->∃ ts:List TA,ts.map (·.2)=ps.map (·.2)/\atC ts=Qj ps/\ts.length=ps.length/\∀ q∈ts,AtV w q.1 q.2
 | [],w,_=>⟨[],rfl,rfl,rfl,λq hq=>by cases hq⟩
 | p::ps,w,h=>by
  obtain ⟨qs,h1,h2,h3,h4⟩:=Qkb ps w λq hq=>h q (List.mem_cons_of_mem _ hq);obtain ⟨t,e,hr⟩:=h p (mC ..);refine ⟨(t,p.2)::qs,by simp [h1],?_,by simp [h3],λq hq=>?_⟩
  .simp only [Qj,atC,List.flatMap_cons,e]at h2 ⊢;rw [h2]
  .rcases List.mem_cons.1 hq with rfl|hq
   .exact hr
   .exact h4 q hq
theorem Jbf{ats:List Atm}(h:GV 3 AtG w v ats): ∃ (ts:List TA) (A:Option Addr) (c:Nat),ats=ts.map (·.2)/\v=.slice A ts.length c/\ts.length<=c/\ts.length<=1100000/\Rd w 3 A ts.length (atC ts)/\∀ p∈ts,AtV w p.1 p.2:=by
 obtain ⟨ps,A,c,e,G,C,u,o,J⟩:=h;obtain ⟨ts,h1,h2,Z,U⟩:=Qkb ps w λp O=>(J p O).2;rw [<-Z]at G C u o;exact ⟨ts,A,c,by rw [e,h1],G,C,u,by rw [h2];exact o,U⟩
theorem EA: ElT Tryz.prog 90 99 3 56 (.agg #[.slice none 0 0,.int .i64 0,.slice none 0 0]):=⟨Tryz.underlying90,info_parts kr,rfl,by decide⟩
theorem zInts: Qu Tryz.prog 44=some (.slice none 0 0):=kr
theorem zRows: Qu Tryz.prog 54=some (.slice none 0 0):=kr
theorem Jbb(v1 v2 v3:Value)(A B:Option Addr)(n c m d:Nat)(z:Int)(h1:v1=.slice A n c)(h2:v2=.int .i64 z)(h3:v3=.slice B m d)(w:World): (Instr.buildSlice 90 1 #[(0,.agg #[v1,v2,v3])]).run Tryz.prog w=.ok (.slice (some ⟨w.heap.size,0,none⟩) 1 1) (w.alloc (.cells [v1,v2,v3].toArray 99)):=by
 subst h1;subst h2;subst h3;kernel_rfl
theorem Jhb(A B:Option Addr)(n c m d:Nat)(z:Int)(w:World): (Instr.build 99 #[(0,.slice A n c),(1,.agg #[.int .i64 z,.slice B m d])]).run Tryz.prog w=.ok (.agg #[.slice A n c,.int .i64 z,.slice B m d]) w:=kr
theorem Ge{z:Int}(h:v.oneCell'=true): ∀ u∈[v,.int .i64 z,.slice A n c],u.oneCell'=true:=λu o=>by
 simp only [List.mem_cons,List.not_mem_nil,or_false]at o;rcases o with rfl|rfl|rfl
 .exact h
 .rfl
 .rfl
theorem Qfl(hok:MOk n ts vars rs s)(hl:ts'.length=ts.length)(he:(List.range ts.length).map (λj=>(⟨nz (rnm (vars j) s),(rnm (vars j) s).length,ms j⟩:Atm))=ts'.map (·.2))(hms:∀ j,j<ts.length->Zz [] ((rs j).map (pmR (Ql (vars j) s))) (ms j)/\(ms j).length<=65536): RunOk (bk s 32).length ts' (λj=>rnm (vars j) s) ms:=by
 have G:=hok.run.n32;have o:∀ i,i<ts.length->∀ v∈vars i,v<32:=λi hi v U=>by have:=hok.run.lt i hi v U;omega
 refine ⟨Yy s 32,by rw [hl];exact hok.run.m32,λi hi=>?_,λi hi=>Qcr (hok.run.asc i (hl ▸ hi)) (o i (hl ▸ hi)),λi hi u Z=>Qcq (o i (hl ▸ hi)) Z,λk J=>?_,λi hi=>(hms i (hl ▸ hi)).1.1,λi hi r hr=>?_,λi hi=>(hms i (hl ▸ hi)).2⟩
 .have C:(ts'.map (·.2))[i]?=some (ts'.getD i ta0).2:=by rw [List.getElem?_map,List.getElem?_eq_getElem hi,Option.map_some,Jp ta0 ts' hi]
  rw [<-he,List.getElem?_map,List.getElem?_range (hl ▸ hi),Option.map_some]at C;injection C with C;exact C.symm
 .obtain ⟨C,O⟩:=bk_mem.1 (getD_mem' 0 _ J);obtain ⟨i,hi,hm⟩:=hok.run.cov _ (Jxz hok.sb O);exact ⟨i,hl.symm ▸ hi,List.mem_map.2 ⟨_,inS_mem.2 ⟨hm,O⟩,Jdv (Jjp s 32) J⟩⟩
 .obtain ⟨x,hx,rfl⟩:=List.mem_map.1 (((hms i (hl ▸ hi)).1.2 r).1 hr);have:=Jkx (vars i) s (vars i).length (Nat.le_refl _);rw [List.take_length]at this;rw [Qm,Jpn];exact this
theorem Qln(hok:MOk n ts vars rs s)(hms:∀ j,j<ts.length->Zz [] ((rs j).map (pmR (Ql (vars j) s))) (ms j)/\(ms j).length<=65536){x:Row}(hx:Zk (bk s 32).length ts.length (λi=>rnm (vars i) s) ms x): x.all Qa=true:=by
 rw [List.all_eq_true];intro y U;obtain ⟨k,C,rfl⟩:=List.getElem_of_mem U;have o:k<(bk s 32).length:=by rw [<-hx.1];exact C
 obtain ⟨h1,O⟩:=bk_mem.1 (getD_mem' 0 _ o);obtain ⟨i,hi,Z⟩:=hok.run.cov _ (Jxz hok.sb O);have h3:=hx.2 i hi;obtain ⟨r,u,e⟩:=List.mem_map.1 (((hms i hi).1.2 _).1 h3);have J:x.getD k V0∈pmR (rnm (vars i) s) x:=List.mem_map.2 ⟨k,List.mem_map.2 ⟨_,inS_mem.2 ⟨Z,O⟩,Jdv (Jjp s 32) o⟩,rfl⟩;rw [<-e]at J;obtain ⟨c,hc,e2⟩:=List.mem_map.1 J;have G:=List.all_eq_true.1 (hok.valid i hi r u) (r.getD c V0) (getD_mem' V0 r (by rw [hok.run.len i hi r u];exact Jxr hc));rw [e2,Jp V0 x C]at G;exact G
theorem Qgl(s:Nat): (madeCells (Value.int .i64 0).cells (32*1)).toList=Jt (nz (Zq s 0)):=by
 have e:(madeCells (Value.int .i64 0).cells (32*1)).toList=List.replicate 32 (Value.int .i64 0):=Yf _ _;have o:Zq s 0=List.replicate 32 0:=by simp [Zq,List.map_const']
 rw [e,o];rfl
theorem Qgh(cs:List Nat)(i x:Nat): Jt (nz (cs.set i x))=(Jt (nz cs)).set i (.int .i64 (x:Int)):=by simp [Jt,nz,List.map_set]
theorem Qjc(h:Xu w base v cs): ∃ A c,v=.slice A cs.length c/\cs.length<=c/\∀ g,v.ownBlock=some g->base<=g/\g<w.heap.size:=Jv h
theorem Qhj(hok:MOk n ts vars rs s)(hR:Rd w 3 Aa ts.length (atC ts))(hle:ts.length<=ca)(hat:∀ p∈ts,AtV w p.1 p.2)(hcap:∀ l:List Row,Lt [] l->(∀ x∈l,∃ z:Row,z.length=n/\x=pmR (bk s 32) z/\Kc ts.length vars rs s z)->l.length<=65536):
  Ret Tryz.prog 128 [.int .i64 (n:Int),.int .u32 (s:Int),.slice Aa ts.length ca] w λu w'=>Ext w w'/\∃ (t':V3) (st:Int) (l:List Row),u=.tuple #[.agg t'.cells.toArray,.int .i64 st,.int .i64 0] /\
   Off (λk=>k<w.heap.size) w' (λx=>AtV x t' ⟨nz (bk s 32),(bk s 32).length,l⟩)/\Lt [] l/\(∀ x,x∈l↔∃ z:Row,z.length=n/\x=pmR (bk s 32) z/\Kc ts.length vars rs s z)/\l.length<=65536:=by
 have b5:=hok.run.n32;have er:=hok.run.m32;have b4:s<4294967296:=nM hok.sb (Nat.pow_le_pow_right (n:=2) (by decide) b5);have a4:∀ i,i<ts.length->∀ v∈vars i,v<32:=λi hi v hv=>by have:=hok.run.lt i hi v hv;omega
 refine Jz Tryz.func128 Tryz.ntmps128 rfl kr rfl ?_;refine ρ ?_;refine alc Yj ?_;intro w1 b6 c2 ei af;refine ρ ?_;refine cl (Jff (n:=(n:Int)) (ats:=ts.map (·.2)) ⟨ts,Aa,ca,rfl,rfl,hle,om,hR.ext c2,λp hp=>(hat p hp).ext c2⟩) ?_
 rintro u w2 ⟨cw,e,rfl,he⟩;have e0:=he.2 (Jcx hok.run);subst e0;clear he;refine ρ ?_;refine Km (s:=s) (v:=n) b5 ?_;rw [Nat.div_eq_of_lt hok.sb];refine ρ ?_;refine mkn EI 32 om (by unfold maxLen;omega) ?_;intro w3 Na cv c8 _;rw [Qgl s]at c8;refine ρ ?_;refine alc zInts ?_;intro w4 br e6 dj O;refine ρ ?_;refine Ih O ?_ rfl;intro w5 O f6 e5;have au:Ext w3 w5:=e5 w3 e6 dj;have bs:=c2.trans cw;have cq:Ext w w5:=(bs.trans cv).trans au;have d7:w5.ownsRow w.heap.size 3 1 (.slice Na 32 32) 32 (Jt (nz (Zq s 0))):=Jvs (Jk c8 au) bs.size;have c0:Blk w5 b6 99 [.slice none 0 0,.int .i64 0,.slice none 0 0]:=(af.ext cw).ext (cv.trans au);refine ρ ?_;refine Ja (fun (v:Nat) (vv:Value)=>[(0,.int .i64 (n:Int)),(1,.int .u32 (s:Int)),(2,.slice Aa ts.length ca),(6,.pointer (some ⟨b6,0,none⟩)),(10,vv),(11,.pointer (some ⟨br,0,none⟩)),(37,.int .i64 (v:Int))])
  (λv vv w'=>v<=32/\Ext w w'/\Blk w' b6 99 [.slice none 0 0,.int .i64 0,.slice none 0 0]/\Blk w' br 44 [.slice Na 32 32]/\w'.ownsRow w.heap.size 3 1 (.slice Na 32 32) 32 (Jt (nz (Zq s v)))/\Xu w' w.heap.size vv (bk s v)/\∀ g,vv.ownBlock=some g->(Value.slice Na 32 32).ownBlock≠some g) (λv _=>32-v) 0 (.slice none 0 0) sB
  ⟨om,cq,c0,O,d7,Xo _ _ _ _,λg e=>(by cases e)⟩ ?_
 clear c8 d7 c0 O;rintro v vv w6 ⟨hv,bj,af,O,ae,b2,a8⟩;refine ρ ?_;refine ci (λh=>?_) (λh=>?_)
 .have lv:v<32:=by have:=oT h;omega
  clear h;have de:=Yy s v;have et:∀ {w':World},(Zq s v).length=32:=fun {_}=>Jqx s v
  obtain ⟨VA,vc,ck,d0,c3⟩:=Qjc b2;refine ρ ?_;refine Km (s:=s) (v:=v) om ?_;refine ρ ?_;refine ci (λh=>?_) (λh=>?_)
  .rw [Ua b4]at h;subst ck;refine ρ ?_;refine ld (O.at (i:=0) rfl) ?_;refine ρ ?_;refine ix v (Rd.own ae) lv ?_;obtain ⟨s1,s2,s3,s4,s5⟩:=Zv ae (q:=v) om (.int .i64 ((bk s v).length:Int));refine ρ ?_;refine sto (s1.trans (Xn (by rw [Jqx];exact lv))) s2 ?_;rw [<-Qgh]at s3;have d5:∀ g,(Value.slice Na 32 32).ownBlock=some g->w.heap.size<=g:=λg eg=>by
    obtain ⟨_,_,_,_,hf⟩:=Jv ae;exact (hf g eg).1
   have a2:Ext w (w6.setCell (adr Na v) (.int .i64 ((bk s v).length:Int))):=Qb bj s5 d5;have a3:=af.grown s5 (af.ne_own ae rfl);have a1:=O.grown s5 (O.ne_own ae rfl);have ad:Xu (w6.setCell (adr Na v) (.int .i64 ((bk s v).length:Int))) w.heap.size (.slice VA (bk s v).length vc) (bk s v):=Jr b2 (GrN.by s5 λg eg=>eg) (λg eg e=>a8 g eg e);generalize w6.setCell (adr Na v) (.int .i64 ((bk s v).length:Int))=w7 at *
   clear s1 s2 s4 s5;refine ρ ?_;refine bsl (bs1Int'' _) ?_;intro w8 b8 o f9 ek;refine ρ ?_;refine apI (Jk ad o) ek om (a2.trans o).size ?_;intro e3 w9 c4 a5 ee;have an:Ext w w9:=Qb (a2.trans o) a5 (λg eg=>(c3 g eg).1);refine ρ ?_;refine Jl (v+1) e3 sO ⟨om,an,(a3.ext o).grown a5 ((a3.ext o).ne_own (Jk ad o) rfl),(a1.ext o).grown a5 ((a1.ext o).ne_own (Jk ad o) rfl),?_,?_,λg eg e=>?_⟩ om
   .rw [Jsc lv,if_pos h];exact Jr (Jk s3 o) (GrN.by a5 λg eg=>eg) (λg eg e=>a8 g e eg)
   .rw [Ut,if_pos h];exact c4
   .rcases ee g eg with h'|h'
    .exact a8 g h' e
    .obtain ⟨_,_,_,_,hf⟩:=Jv s3;have:=(hf g e).2;have:=o.size;omega
  .rw [Ua b4]at h;have hf:¬ s.testBit v=true:=by rw [h];simp
   refine ρ ?_;refine Jl (v+1) vv sO ⟨om,bj,af,O,?_,?_,a8⟩ om
   .rw [Jsc lv,if_neg hf];exact ae
   .rw [Ut,if_neg hf,List.append_nil];exact b2
 have e8:v=32:=by have:=oF h;omega
 subst e8;clear h a8;obtain ⟨VA,vc,ck,d0,c3⟩:=Qjc b2;subst ck;have de:=Yy s 32;refine ρ ?_;refine Jqc (fun (i:Nat) (st:Int) (vp:Value) (ms:Nat->List Row)=>[(0,.int .i64 (n:Int)),(1,.int .u32 (s:Int)),(6,.pointer (some ⟨b6,0,none⟩)),(10,.slice VA (bk s 32).length vc),(13,.func (.func 163) #[] #[.pointer (some ⟨br,0,none⟩)]),(14,.int .i64 st),(15,vp),(56,.slice Aa ts.length ca),(57,.int .i64 (ts.length:Int)),(58,.int .i64 (i:Int))])
  (λi st vp ms w'=>i<=ts.length/\Ext w w'/\w6.heap.size<=w'.heap.size/\Blk w' b6 99 [.slice none 0 0,.int .i64 0,.slice none 0 0]/\Blk w' br 44 [.slice Na 32 32]/\w'.ownsRow w.heap.size 3 1 (.slice Na 32 32) 32 (Jt (nz (Zq s 32)))/\Xu w' w.heap.size (.slice VA (bk s 32).length vc) (bk s 32) /\
   OwnG 99 3 AtG w' w6.heap.size vp ((List.range i).map λj=>⟨nz (rnm (vars j) s),(rnm (vars j) s).length,ms j⟩)/\∀ j,j<i->Zz [] ((rs j).map (pmR (Ql (vars j) s))) (ms j)/\(ms j).length<=65536) (λi _ _ _=>ts.length-i) 0 0 (.slice none 0 0) (λ_=>[]) sB
  ⟨Nat.zero_le _,bj,Nat.le_refl _,af,O,ae,b2,OwnG.nil _ _,λj hj=>om⟩ ?_
 rintro i st vp ms w7 ⟨hi,a2,b3,a3,a1,d6,ad,cb,ai⟩;refine ρ ?_;refine ci (λh=>?_) (λh=>?_)
 .have li:i<ts.length:=by have:=oT h;omega
  have dk:=hR.ext a2;obtain ⟨t1,t2,t3,a,hp⟩:∃ t1 t2 t3 a,ts.getD i ta0=((t1,t2,t3),a):=⟨_,_,_,_,rfl⟩;have dn:AtV w (t1,t2,t3) a:=by have:=hat _ (Ic rfl li);rw [hp]at this;exact this
  have ea:a=⟨nz (vars i),(vars i).length,rs i⟩:=by have:=hok.run.at_ i li;rw [hp]at this;exact this
  subst ea;clear h;have h3:∀ u∈[t1,t2,t3],u.oneCell'=true:=dn.one;refine ρ ?_;refine ixq 3 i dk li ?_;refine ρ ?_;refine lds (cs:=[t1,t2,t3]) (λj u hu=>Jwh dk rfl li (by rw [hp];exact hu)) ?_;refine ρ ?_;refine alc Yj ?_;intro w8 fb o di be;refine ρ ?_;refine stb (cs':=[t1,t2,t3]) be ?_ h3;intro w9 be a5 an;have ag:Ext w7 w9:=an w7 o di;refine ρ ?_;refine ldW be ?_;refine ρ ?_;refine cl (Xjk (t:=(t1,t2,t3)) (dn.ext (a2.trans ag)) b4 (hok.run.asc i li) (a4 i li) (hok.run.len i li) (hok.run.big i li)) ?_;rintro u ap ⟨a6,⟨p1,p2,p3⟩,rfl,m,a7,d9,d8,ah⟩;have Z:=ah (hok.srtP i li);have cj:=a7.here;obtain ⟨⟨PA,pc,dz,d4,e9,f3⟩,dx,bo⟩:=id cj;simp only at dz dx;obtain ⟨bi,PG,aq,_,dw,_⟩:=id bo;simp only at dw;have cr:=a2.trans ag;have e7:=cr.trans a6;refine ρ ?_;refine alc Yj ?_;intro e1 fa b1 dh aj;refine ρ ?_;refine stb (cs':=[p1,p2,p3]) aj ?_ cj.one;intro ak aj dc ay;have C:Ext ap ak:=ay ap b1 dh
  refine ρ ?_;subst dz;subst dx;subst dw;refine lds (cs:=[.int .i64 ((inS (vars i) s).length:Int),.slice PG bi.length aq]) (aj.sub2 (i:=1) rfl rfl) ?_;refine ρ ?_;have bf:=cj.ext C;refine cl (Jzq bf.rel) ?_;rintro u bh ⟨rfl,J⟩;obtain ⟨st',d3⟩:∃ st':Int,st'=IntKind.i64.wrap (st+(m.length:Int)):=⟨_,rfl⟩;have ch:=aj.ext J;repeat first|refine ω4 ?_|refine ω5 ?_|refine χ1 ?_|refine κ1 ?_|refine κ2 ?_|refine χ2 ?_|refine κ3 ?_|refine ω6 ?_|refine ω7 ?_|refine ω9 ?_|refine κ4 ?_|refine κ7 ?_|refine κ8 ?_|refine χ3 ?_|refine χ4 ?_|refine κ5 ?_|refine κ6 ?_|refine χ5 ?_|refine χ6 ?_|refine χ7 ?_|refine ω8 ?_
  rw [<-d3];refine ρ ?_;refine ldW ch ?_;refine ρ ?_;have U:Ext w7 bh:=((ag.trans a6).trans C).trans J;have ax:=a2.trans U;refine clv (Qhm (Na:=Na) (nums:=Zq s 32) (bf.ext J) ?_ ?_ (λv hv=>?_) ?_) ?_
  .rw [Jqx];exact a1.ext U
  .rw [Jqx];exact Rd.own (Jk d6 U)
  .rw [Jqx];exact a4 i li v (inS_mem.1 hv).1
  .have:=List.length_filter_le (λv=>s.testBit v) (vars i);have h5:=Jwk (hok.run.asc i li) (a4 i li);unfold inS;omega
  rintro u ao ⟨aw,v1,rfl,c5⟩;have d1:=c5.here;obtain ⟨QA,qc,du,f2,f0,ez⟩:=d1;refine ρ ?_;refine bsl (Jbb v1 _ _ QA PG _ qc _ aq _ du rfl rfl) ?_;intro c1 fc av ew dm;have em:(inS (vars i) s).map (λv=>(Zq s 32).getD v 0)=rnm (vars i) s:=by
   unfold rnm;refine List.map_congr_left λv hv=>?_;obtain ⟨h5,h6⟩:=inS_mem.1 hv;exact Qgk (a4 i li v h5) h6
  rw [em]at c5;have G:=(U.trans aw).trans av;have ba:=cb.ext G;obtain ⟨_,_,_,_,c9⟩:=cb.form;have c7:∀ k,Qs w6.heap.size vp k->k<w7.heap.size:=λk hk=>by
   rcases hk with hk|hk
   .exact nM hk b3
   .exact (c9 k hk).2
  have hΦ:Off (Qs w6.heap.size vp) c1 (λu=>AtG u [v1,.int .i64 ((inS (vars i) s).length:Int),.slice PG bi.length aq] ⟨nz (rnm (vars i) s),(rnm (vars i) s).length,m⟩):=by
   have h5:Off (λk=>k<w7.heap.size) c1 (λu=>IntsV u v1 (nz (rnm (vars i) s))):=(c5.mono λk _ hk=>nM hk U.size).ext av;have h6:Off (λk=>k<w7.heap.size) c1 (λu=>AtV u (.slice PA (nz (inS (vars i) s)).length pc,.int .i64 ((inS (vars i) s).length:Int),.slice PG bi.length aq) ⟨nz (inS (vars i) s),(inS (vars i) s).length,m⟩) :=
    (a7.mono λk _ hk=>nM hk ag.size).ext (((C.trans J).trans aw).trans av)
   refine ((h5.and h6).imp λu h=>⟨(v1,.int .i64 ((inS (vars i) s).length:Int),.slice PG bi.length aq),rfl,h.1,?_,h.2.2.2⟩).mono λk _ hk=>c7 k hk;simp only;rw [Jpn]
  refine ρ ?_;refine apG EA (Φ:=AtG) ba dm rfl (Ge (by rw [du];rfl)) hΦ (by simp;omega) om (nL b3 G.size) ?_;intro cn bg dl aa ep;have cx:Ext w bg:=Qb (a2.trans G) aa (λg eg=>nL bj.size (c9 g eg).1);have bp:∀ {g t:Nat} {cs:List Value},Blk w7 g t cs->Nat.beq 99 t=false->Blk bg g t cs:=λhB e=>by
   obtain ⟨ps,_,ho,_⟩:=ba;exact (hB.ext G).grown aa ((hB.ext G).ne_own ho e)
  have cc:Blk bg b6 99 [.slice none 0 0,.int .i64 0,.slice none 0 0]:=by
   exact (a3.ext G).grown aa λe=>by have:=(c9 b6 e.symm).1;have:=af.lt;omega
  have bu:∀ {m':Nat} {v:Value} {xs:List Value},w7.ownsRow w.heap.size 3 1 v m' xs->bg.ownsRow w.heap.size 3 1 v m' xs:=λho=>by
   obtain ⟨ps,_,ed,_⟩:=ba;exact Zj (Jk ho G) ed aa rfl
  refine ρ ?_;refine Gr (i+1) st' cn (upd ms i m) sO ⟨om,cx,Nat.le_trans b3 (nL G.size aa.size),cc,bp a1 rfl,bu d6,bu ad,?_,λj hj=>?_⟩ om
  .rw [List.range_succ,List.map_append,List.map_singleton,Jg];have e:(List.range i).map (λj=>(⟨nz (rnm (vars j) s),(rnm (vars j) s).length,upd ms i m j⟩:Atm))=(List.range i).map (λj=>⟨nz (rnm (vars j) s),(rnm (vars j) s).length,ms j⟩):=by
    refine List.map_congr_left λj hj=>?_;have:=List.mem_range.1 hj;rw [Jy _ _ om]
   rw [e];exact dl
  .by_cases e:j=i
   .subst e;rw [Jg];exact ⟨Z,d9⟩
   .rw [Jy _ _ e];exact ai j om
 .have eh:i=ts.length:=by have:=oF h;omega
  subst eh;clear h;refine ρ ?_;refine alc zRows ?_;intro w8 cm o dg ab;have ej:=cb.ext o;obtain ⟨e4,PA,pc,dv,el,d4,e9,eb,ec⟩:=Jbf (ej.gv (by simp;omega));have c6:e4.length=ts.length:=by
   have:=congrArg List.length dv;simpa using this.symm
  have bw:=Qfl hok c6 dv ai;subst el;have co:=a2.trans o;have b9:=Qhk (m:=ts.length) (ms:=ms) hok.sb b5 hok.run.lt hok.run.len (λi hi x=>(ai i hi).1.2 x);refine ρ ?_;refine cl (Qpb (bx':=λk=>k=cm) (Y:=YM cm) bw eb d4 ec (Jcx bw) (λk hk=>by subst hk;exact ab.lt) (Qhl ab.lt) (λw' cy=>⟨nM ab.lt cy.size,.slice none 0 0,ab.ext cy,OwnG.nil _ _⟩) ?_) ?_
  .intro l h1 h2;refine hcap l h1 λx hx=>(b9 x).1 ?_;have:=h2 x hx;rw [c6]at this;exact this
  rintro u w9 ⟨a5,ey,base,l,rfl,f7,eu,⟨f8,ex,cg,hO⟩,bq,a9⟩;rw [c6]at a9;have cz:w.heap.size<=cm:=nL a2.size dg;have an:Ext w w9:=a5.old co λk hk=>by subst hk;exact cz
  have bb:=Jc (a3.ext o) a5 (λe=>by have:=a3.lt;omega);have c4:Xu w9 w.heap.size (.slice VA (bk s 32).length vc) (bk s 32):=Jr (Jk ad o) a5 (λg eg e=>by subst e;exact ab.ne_own (Jk ad o) rfl eg.symm);have da:l.length<=65536:=by
   refine hcap l bq λx hx=>(b9 x).1 ((a9 x).1 hx)
  obtain ⟨LA,lc,dq,f5,f4⟩:=hO.form;subst dq;have bm:=Qck (hO.gv om);refine ρ ?_;refine ld (cg.at (i:=0) rfl) ?_;refine ρ ?_;refine cl (Jvl (ar:=(bk s 32).length) bm) ?_;rintro u ap ⟨a6,rv,e,rfl,⟨z,RB,rm,rd,rfl⟩,dd,bv⟩;have ef:∀ r∈l,r.length=(bk s 32).length/\r.all Qa=true:=λr hr=>⟨((a9 r).1 hr).1,Qln hok ai ((a9 r).1 hr)⟩;have e0:=dd de ef da;subst e0;obtain ⟨_,_,m,a7,d9,d8,ah⟩:=bv rfl;have Z:=ah (.inr (Gv bq));have en:m=l:=Im Z.1 bq Z.2;subst en;clear ah Z dd bv d8;refine ρ ?_;refine alc Ux ?_;intro e1 eo b1 df bd;refine ρ ?_;refine stb (cs':=[.int .i64 z,.slice RB rm rd]) bd ?_ Vp;intro ak bd dc ay;have C:Ext ap ak:=ay ap b1 df;refine ρ ?_;have ac:=a6.trans C;have ce:=bb.ext ac;have bn:=(a7.here).ext C;refine drN (λk=>k=b6) 12 [(0,0),(0,1),(0,2),(0,3),(0,4),(0,5),(0,6),(1,7),(0,8),(1,9),(0,10),(0,11)] kr ?_;have am:Ext ak ak.drew:=(Ext.refl ak).drew
  have bc:=bd.ext am;have bz:=ce.ext am;have bp:¬ (λk=>k=b6) eo:=λe=>by
   have h1:=bb.lt;have h2:=a6.size;simp only at e;omega
  refine ρn ?_;refine Xw (cs:=[.int .i64 z,.slice RB rm rd]) (λw' hg j u hu=>(Jc bc hg bp).at hu) ?_;refine ρn ?_;refine Jjc (Jhb _ _ _ _ _ _ _) ?_;refine ρn ?_;refine Xw (cs:=[.int .i64 z,.slice RB rm rd]) (λw' hg j u hu=>(Jc bc hg bp).at hu) ?_;refine ρn ?_;refine nop ?_;refine cl (Jzq (bn.ext am)) ?_;rintro u bh ⟨rfl,J⟩;refine ρ ?_;refine Js (GrN.ext J) ?_;refine ρn ?_;refine nop ?_;refine stb (cs':=[.slice VA (bk s 32).length vc,.int .i64 z,.slice RB rm rd]) (bz.ext J) ?_ (Ge rfl);intro ao cd b7 aw;refine ω5 ?_;refine Js (GrN.by b7 λk e=>by injection e with e;exact e.symm) ?_;refine ρn ?_;refine ρ ?_;have ax:Ext w bh:=((an.trans ac).trans am).trans J;refine Qjn cd ⟨Jyl ax b7 ei,(.slice VA (bk s 32).length vc,.int .i64 z,.slice RB rm rd),_,m,rfl,?_,bq,λx=>(a9 x).trans (b9 x),da⟩;have db:GrN (λk=>k=b6) bh ao:=GrN.by b7 λk e=>by injection e with e;exact e.symm
  have bt:=Jk c4 ((ac.trans am).trans J);have d2:Xu ao w.heap.size (.slice VA (bk s 32).length vc) (bk s 32):=Jr bt db λg eg e=>by subst e;exact (bz.ext J).ne_own bt rfl eg.symm
  have h5:Off (λk=>k<w.heap.size) ao (λu=>IntsV u (.slice VA (bk s 32).length vc) (nz (bk s 32))):=by
   refine (Jqs d2 λg eg hk=>by have:=(c3 g eg).1;omega).imp λu h=>⟨VA,vc,by rw [Qq],by rw [Qq];exact d0,by rw [Qq];omega,by rw [Qq];exact Rd.own h⟩
  have h6:Off (λk=>k<w.heap.size) ao (λu=>RelV u (.agg #[.int .i64 z,.slice RB rm rd]) (bk s 32).length m):=by
   have h7:=a7.ext ((C.trans am).trans J);have h8:=h7.gr (db.mono λk _ hk=>by subst hk;exact bb.lt);exact h8.mono λk _ hk=>nM hk an.size
  refine (h5.and h6).imp λu h=>?_;obtain ⟨h7,rv,dt,h8⟩:=h;have e2:(Value.int .i64 z)=.int .i64 ((bk s 32).length:Int)/\Value.slice RB rm rd=rv:=by
   simp only [Value.agg.injEq,Array.mk.injEq,List.cons.injEq,and_true]at dt;exact dt
  exact ⟨h7,e2.1,by simp only;rw [e2.2];exact h8⟩
end Go.Proofs.YtebcagekopgdhaaGreatDoor
namespace Go.Wk
open Go.RowKit
variable {p:Addr}{z:Int}{kd:IntKind}{cs cs' xs:List Value}{b e g m t:Nat}{i x y:Operand}{k k2:TK}{v:Value}
section
variable {N:Nat->Prop} {P:Program} {n:Nat} {al:AL} {w:World} {Q:Exit->Act->World->Prop} {ops:Array Oper} {rest:List Oper} {drest:List (Nat×Oper)}
variable {d ty:Nat} {pos:String} {aft:Array Edge} {tt:TT}
theorem Jzk(hT:TOk P tt)(ht:tk tt t=some k)(hk:k.desc=.array m e)(w:World): (isAgg t).run P w=.ok true w/\Zn P t=some k.size/\P.underlying t=some (.array m e)/\Zn P e=some k.esz:=by
 have:=hT.at ht;unfold Ys at this;rw [hk]at this;exact ⟨by simp [isAgg,run_underlying this.1],this.2.2,this.1,this.2.1⟩
theorem Jpd(hT:TOk P tt)(ht:tk tt t=some k)(hk:k.desc=.array m e)(hl:k.size=cs.length)(hc:∀ j u,cs[j]?=some u->w.cell? (p.add j)=some u): (loadVar t p).run P w=.ok (.agg cs.toArray) w:=by
 have o:=run_loadCells_list (P:=P) w p cs hc;rw [<-hl]at o;simp [loadVar,(Jzk hT ht hk w).1,Vk w (Jzk hT ht hk w).2.1,o]
theorem lda[h:Tab P tt](hc:∀ j u,cs[j]?=some u->w.cell? (p.add j)=some u)(hl:k.size=cs.length)(kk:WL P n ops Q rest ((d,.agg cs.toArray)::al) w)(ht:tk tt t=some k:=by rfl)(hk:k.desc=.array m e:=by rfl)(hx:ev al x=some (.pointer (some p)):=by rfl)(hd:Nat.blt d n=true:=by rfl): WL P n ops Q (⟨some d,.load t x,ty,pos,aft,none⟩::rest) al w :=
 wop hd (λa o=>by simp [execOp,o.ev hx,Instr.loadAt,Instr.sureAddr,Jpd (w:=w) h.ok ht hk hl hc]) kk
theorem sta[h:Tab P tt](hb:Blk w b t cs)(kk:∀ w1,Blk w1 b t cs'->w.grownBy w1 (some b)->(∀ a,Ext a w->a.heap.size<=b->Ext a w1)->WL P n ops Q rest al w1)(h1:∀ u∈cs',u.oneCell'=true)(hl:cs.length=cs'.length)(hs:k.size=cs'.length)(ht:tk tt t=some k:=by rfl)(hk:k.desc=.array m e:=by rfl)(hx:ev al x=some (.pointer (some ⟨b,0,none⟩)):=by rfl)(hy:ev al y=some (.agg cs'.toArray):=by rfl):
  WL P n ops Q (⟨none,.store t x y,ty,pos,aft,none⟩::rest) al w:=by
 have J:=Jjh w b cs'.toArray;refine Iz (λa G=>?_) (kk (w.setRow b cs'.toArray) (setRow_heap w b _ _ _ _ hb) J (λa hx G=>Qb hx J (λk hk=>by injection hk with hk;omega)));have C:=Vk w (Jzk h.ok ht hk w).2.1;have o:=run_storeCells_from (P:=P) b t cs' 0 cs.toArray w hb (by simpa using hl.symm) h1;simp only [List.take_zero,List.nil_append]at o;simp [execOp,G.ev hx,G.ev hy,Instr.storeAt,Instr.sureAddr,storeVar,Value.cells,C,hs,o]
theorem Qjp[h:Tab P tt]{fn:Func}{Φ:Value->World->Prop}{c:Nat}(hb:Blk w b t cs)(hs:k.size=cs.length)(hp:Φ (.agg cs.toArray) w)(hr:fn.results = #[.cell c t]:=by rfl)(ht:tk tt t=some k:=by rfl)(hk:k.desc=.array m e:=by rfl)(hc:lk al c=some (.pointer (some ⟨b,0,none⟩)):=by rfl):
  QX n (Vu P fn Φ) .ret al w :=
 Jxq (rs:=[.cell c t]) (vs:=[.agg cs.toArray]) hr ⟨⟨_,hc,Jpd h.ok ht hk hs (λj u o=>hb.at o)⟩,trivial⟩ rfl hp
theorem idx[h:Tab P tt](j:Nat)(hlt:j<m)(hv:cs[j]?=some v)(kk:WL P n ops Q rest ((d,v)::al) w)(ht:tk tt t=some k:=by rfl)(hk:k.desc=.array m e:=by rfl)(h1:k.esz=1:=by rfl)(he:tk tt e=some k2:=by rfl)(hp:Vn k2.desc=true:=by rfl)(hx:ev al x=some (.agg cs.toArray):=by rfl)(hi:ev al i=some (.int kd z):=by rfl)(hj:z=(j:Int):=by first|rfl|omega)(hd:Nat.blt d n=true:=by rfl):
  WL P n ops Q (⟨some d,.index t x i,ty,pos,aft,none⟩::rest) al w :=
 wop hd (λa u=>by
  subst hj;have o:=Jzk h.ok ht hk w;have C:=Vk w (h1 ▸ o.2.2.2);have G:=(Jvb h.ok he hp w).1;simp [execOp,u.ev hx,u.ev hi,Instr.index,asIntOf,run_underlying o.2.2.1,hlt,C,part,G,hv]) kk
theorem ixs[h:Tab P tt](j:Nat)(hlt:j<m)(kk:WL P n ops Q rest ((d,.pointer (some (p.add (j*k.esz))))::al) w)(ht:tk tt t=some k:=by rfl)(hk:k.desc=.array m e:=by rfl)(hx:ev al x=some (.pointer (some p)):=by rfl)(hi:ev al i=some (.int kd z):=by rfl)(hj:z=(j:Int):=by first|rfl|omega)(hd:Nat.blt d n=true:=by rfl): WL P n ops Q (⟨some d,.indexAddr t x i,ty,pos,aft,none⟩::rest) al w :=
 wop hd (λa o=>Jcw h.ok j ht hk hlt o hx hi hj (some d) w) kk
theorem dixs[h:Tab P tt](j:Nat)(hlt:j<m)(kk:WD P n ops Q drest ((d,.pointer (some (p.add (j*k.esz))))::al) w)(ht:tk tt t=some k:=by rfl)(hk:k.desc=.array m e:=by rfl)(hx:ev al x=some (.pointer (some p)):=by rfl)(hi:ev al i=some (.int kd z):=by rfl)(hj:z=(j:Int):=by first|rfl|omega)(hd:Nat.blt d n=true:=by rfl): WD P n ops Q ((0,⟨some d,.indexAddr t x i,ty,pos,aft,none⟩)::drest) al w :=
 dy (λw' _ a o=>Jcw h.ok j ht hk hlt o hx hi hj (some d) w') hd kk
theorem adr1(b v:Nat): (⟨b,0,none⟩:Addr).add (v*1)=⟨b,v,none⟩:=by rw [Vo,Nat.mul_one,Nat.zero_add]
theorem ixb[h:Tab P tt](j:Nat)(hlt:j<m)(kk:WL P n ops Q rest ((d,.pointer (some ⟨b,j,none⟩))::al) w)(ht:tk tt t=some k:=by rfl)(hk:k.desc=.array m e:=by rfl)(h1:k.esz=1:=by rfl)(hx:ev al x=some (.pointer (some ⟨b,0,none⟩)):=by rfl)(hi:ev al i=some (.int kd z):=by rfl)(hj:z=(j:Int):=by first|rfl|omega)(hd:Nat.blt d n=true:=by rfl): WL P n ops Q (⟨some d,.indexAddr t x i,ty,pos,aft,none⟩::rest) al w:=by
 rw [<-adr1 b j,<-h1]at kk;exact ixs j hlt kk ht hk hx hi hj hd
theorem dixb[h:Tab P tt](j:Nat)(hlt:j<m)(kk:WD P n ops Q drest ((d,.pointer (some ⟨b,j,none⟩))::al) w)(ht:tk tt t=some k:=by rfl)(hk:k.desc=.array m e:=by rfl)(h1:k.esz=1:=by rfl)(hx:ev al x=some (.pointer (some ⟨b,0,none⟩)):=by rfl)(hi:ev al i=some (.int kd z):=by rfl)(hj:z=(j:Int):=by first|rfl|omega)(hd:Nat.blt d n=true:=by rfl): WD P n ops Q ((0,⟨some d,.indexAddr t x i,ty,pos,aft,none⟩)::drest) al w:=by
 rw [<-adr1 b j,<-h1]at kk;exact dixs j hlt kk ht hk hx hi hj hd
theorem nixb[h:Tab P tt](j:Nat)(hlt:j<m)(kk:WN N P n ops Q drest ((d,.pointer (some ⟨b,j,none⟩))::al) w)(ht:tk tt t=some k:=by rfl)(hk:k.desc=.array m e:=by rfl)(h1:k.esz=1:=by rfl)(hx:ev al x=some (.pointer (some ⟨b,0,none⟩)):=by rfl)(hi:ev al i=some (.int kd z):=by rfl)(hj:z=(j:Int):=by first|rfl|omega)(hd:Nat.blt d n=true:=by rfl): WN N P n ops Q ((0,⟨some d,.indexAddr t x i,ty,pos,aft,none⟩)::drest) al w:=by
 rw [<-adr1 b j,<-h1]at kk;exact nixa j hlt kk ht hk hx hi hj hd
theorem Blk.atc{w:World}{t:TypeId}(h:Blk w g t cs){i:Nat}(hv:cs[i]?=some v): w.cell? ⟨g,i,none⟩=some v:=by rw [h.cell];exact hv
theorem sla[h:Tab P tt](kk:WL P n ops Q rest ((d,.slice (some p) m m)::al) w)(ht:tk tt t=some k:=by rfl)(hk:k.desc=.array m e:=by rfl)(hx:ev al x=some (.pointer (some p)):=by rfl)(hd:Nat.blt d n=true:=by rfl): WL P n ops Q (⟨some d,.slice t x none none none,ty,pos,aft,none⟩::rest) al w :=
 wop hd (λa C=>by
  have o:=Jzk h.ok ht hk w;have u:=Vk w o.2.2.2;simp [execOp,C.ev hx,Instr.sliceAt,run_underlying o.2.2.1,Instr.sureAddr,Instr.sliceBounds,u];exact λ_=>add_zero p) kk
theorem cpb{dT sT dl dc sn sc:Nat}{A:Option Addr}[h:Tab P tt](hb:Blk w b t cs)(hr:Rd w 1 A sn xs)(hsn:sn<=dl)(hdl:dl<=cs.length)(h1:∀ u∈xs,u.oneCell'=true)(kk:∀ w1,Blk w1 b t (xs++cs.drop sn)->w.grownBy w1 (some b)->WL P n ops Q rest ((d,.int .i64 (sn:Int))::al) w1)(ht:tk tt dT=some k:=by rfl)(hk:k.desc=.slice e:=by rfl)(hz:k.esz=1:=by rfl)(hx:ev al x=some (.slice (some ⟨b,0,none⟩) dl dc):=by rfl)(hy:ev al y=some (.slice A sn sc):=by rfl)(hd:Nat.blt d n=true:=by rfl):
  WL P n ops Q (⟨some d,.call { callee:=.builtin .copy,args:=#[x,y],argTypes:=#[dT,sT] },ty,pos,aft,none⟩::rest) al w:=by
 have C:xs.length=sn:=by rw [hr.len,Nat.mul_one]
 have O:=Kl h.ok ht hk hz;have G:(P.info? e).map (·.size)=some 1:=O.2
 have U:=Jjh w b (xs++cs.drop sn).toArray;have hB:Blk (w.setRow b (xs++cs.drop sn).toArray) b t (xs++cs.drop sn):=setRow_heap w b _ _ _ _ hb;refine wop (w':=w.setRow b (xs++cs.drop sn).toArray) hd (λa J=>?_) (kk _ hB U);by_cases h0:sn=0
 .subst h0;have:xs=[]:=List.eq_nil_of_length_eq_zero C;subst this;have e0:w.setRow b ([]++cs.drop 0).toArray=w:=by
   have:=setRow_self w b cs.toArray t (0,0) hb;simpa using this
  rw [e0];cases hq:P.info? e with
  | none=>rw [hq]at G;cases G
  | some i=>
   cases A with
   | none=>simp [execOp,resolve,invoke,builtin,J.ev hx,J.ev hy,Builtin.copy_,run_underlying O.1,Builtin.lenOf,Builtin.firstCells,sizeOf,typeInfo,hq,storeCells,goInt]
   | some Z=>simp [execOp,resolve,invoke,builtin,J.ev hx,J.ev hy,Builtin.copy_,run_underlying O.1,Builtin.lenOf,Builtin.firstCells,sizeOf,typeInfo,hq,storeCells,goInt,loadCells,loadCellsFrom]
 .obtain ⟨Z,hA,_⟩:=hr.isome om om;subst hA;have o:=run_copy_row P w dT sT ty e b 0 dl dc Z sn sc cs.toArray t xs O.1 G hb (by rw [C];exact (Nat.min_eq_left hsn).symm) (λj v hv=>hr.cell hv) (by simp;omega) h1;rw [C]at o;have e1:(cs.toArray.toList.take 0++xs++cs.toArray.toList.drop (0+sn)).toArray=(xs++cs.drop sn).toArray:=by simp
  rw [e1]at o;simp [execOp,resolve,invoke,builtin,J.ev hx,J.ev hy,o,goInt]
end
end Go.Wk
namespace Go.Wk
open Go.RowKit
variable {L listed listed':Array Bool}{l:List Oper}{fuel fuel' i id:Nat}{o oi oj:Oper}{w0:World}
section
variable {P:Program} {n:Nat} {al al':AL} {w:World} {Q:Exit->Act->World->Prop} {ops:Array Oper} {T:Nat->Bool}
def Kh(P:Program)(ops:Array Oper)(Q:Exit->Act->World->Prop)(T:Nat->Bool)(i:Nat)(w0:World)(fuel:Nat)(listed:Array Bool): Exit->Act->World->Prop
 | .normal,a,w=>(T i=false->Ext w0 w)/\(Closed ops listed->Vh P ops Q T fuel listed a w)
 | _,_,_=>False
theorem Kx(hx:T i=false->Ext w0 w)(h:WH P n ops Q T fuel listed al w): QX n (Kh P ops Q T i w0 fuel listed) .normal al w:=λa u=>⟨hx,λo=>h o a u⟩
theorem Jbr(ho:ops[i]?=some o)(hc:Closed ops listed)(h:WL P n ops (Kh P ops Q T i w fuel listed) [o] al w): ∀ a,Fr n al a->wpOp P ops (QF Q) i (λa' w'=>(T i=false->Ext w w')/\Vh P ops Q T fuel listed a' w') a w:=λa O=>by
 have u:=h a O;unfold wpList at u;unfold wpOp;simp only [ho];have C:¬ LetsOut (Kh P ops Q T i w fuel listed):=by rintro ⟨a,w,h⟩;exact h
 split
 .rename_i hw;simp only [hw,if_true]at u;rcases u with u|⟨_,u⟩
  .left
   refine Oper.wp_mono (K:=wpList P ops (Kh P ops Q T i w fuel listed) []) (λa' w' J=>⟨J.1,J.2 hc⟩) ?_;unfold Oper.wp at u ⊢;exact Yc (Q:=Kh P ops Q T i w fuel listed) (λc a w G=>G.elim) (λG=>absurd G C) u
  .exact absurd u C
 .rename_i hw;simp only [hw]at u;exact ⟨u.1,u.2 hc⟩
theorem itwo(i j:Nat)(hr:Region.ready .any l.toArray listed=[i,j])(hf:fuel=fuel'+1)(hi:nth l i=some oi)(hj:nth l j=some oj)(h1:WL P n l.toArray (Kh P l.toArray Q T i w fuel' (listed.setIfInBounds i true)) [oi] al w)(h2:WL P n l.toArray (Kh P l.toArray Q T j w fuel' (listed.setIfInBounds j true)) [oj] al w): WH P n l.toArray Q T fuel listed al w:=λC a G=>by
 subst hf;have O:l.toArray[i]?=some oi:=by rw [<-hi,Xk];simp
 have J:l.toArray[j]?=some oj:=by rw [<-hj,Xk];simp
 refine ⟨λh0=>(by rw [hr]at h0;cases h0),λk u=>?_⟩;have o:=u;rw [hr]at u;simp only [List.mem_cons,List.not_mem_nil,or_false]at u;rcases u with rfl|rfl
 .exact Jbr O (C.step o) h1 a G
 .exact Jbr J (C.step o) h2 a G
theorem Jkg(i:Nat)(hr:Region.ready .any l.toArray listed=[i])(hf:fuel=fuel'+1)(hi:nth l i=some oi)(h1:WL P n l.toArray (Kh P l.toArray Q T i w fuel' (listed.setIfInBounds i true)) [oi] al w): WH P n l.toArray Q T fuel listed al w:=λC a G=>by
 subst hf;have J:l.toArray[i]?=some oi:=by rw [<-hi,Xk];simp
 refine ⟨λh0=>(by rw [hr]at h0;cases h0),λk o=>?_⟩;have u:=o;rw [hr]at o;simp only [List.mem_cons,List.not_mem_nil,or_false]at o;subst o;exact Jbr J (C.step u) h1 a G
theorem Ye(i:Nat)(hsel:Region.noSelect l.toArray=true)(hr:((Region.ready .any l.toArray listed).contains i && Region.free .any l.toArray listed i)=true)(hf:fuel=fuel'+1)(hi:nth l i=some oi)(h:WP P n l.toArray (Iy P l.toArray Q T fuel' (listed.setIfInBounds i true)) [] [oi] al w): WH P n l.toArray Q T fuel listed al w:=λu a J=>by
 subst hf;simp only [Bool.and_eq_true]at hr;have o:i∈Region.ready .any l.toArray listed:=by simpa using hr.1
 have C:l.toArray[i]?=some oi:=by rw [<-hi,Xk];simp
 unfold WP at h;obtain ⟨v,G,O⟩:=h a J;exact Jwv (λ_ _=>True) (λ_=>trivial) (λ_ _=>trivial) C (Region.noSelect_spec hsel) (λ_ _ _ _ _ _ _ _=>trivial) _ listed a w u (Region.free_spec C hr.2) o G (O (u.step o))
end
section
variable {N:Nat->Prop} {P:Program} {n:Nat} {al al':AL} {w:World} {Q:Exit->Act->World->Prop} {ops:Array Oper}
def Ij(ops:Array Oper): List (Nat×Nat)->Array Bool->Option (Array Bool)
 | [],listed=>some listed
 | (0,i)::r,listed=>if (Region.ready .any ops listed).contains i && Region.free .any ops listed i then Ij ops r (listed.setIfInBounds i true) else none
 | (1,i)::r,listed=>if Region.ready .any ops listed == [i] then Ij ops r (listed.setIfInBounds i true) else none
 | _::_,_=>none
def Jqk(N:Nat->Prop)(P:Program)(ops:Array Oper)(Q:Exit->Act->World->Prop)(fuel:Nat)(listed:Array Bool): Exit->Act->World->Prop
 | .normal,a,w=>Closed ops listed->Yn N P ops Q noT fuel listed a w
 | _,_,_=>False
theorem Xqn{a:Act}{w:World}{K:Act->World->Prop}(h:o.wp P a w K (QF (Jqk N P ops Q fuel listed))): o.wp P a w K (QF Q):=by
 unfold Oper.wp at h ⊢;have u:¬ LetsOut (QF (Jqk N P ops Q fuel listed)):=by rintro ⟨a,w,h⟩;exact h
 exact Yc (Q:=QF (Jqk N P ops Q fuel listed)) (λc a w C=>C.elim) (λC=>absurd C u) h
theorem Jws(hsel:Region.noSelect ops=true)(fuel:Nat)(listed':Array Bool): ∀ (s:List (Nat×Nat)) (listed:Array Bool) (a:Act) (w:World),Closed ops listed->Ij ops s listed=some listed'->Xs N P ops (Jqk N P ops Q fuel listed') (Je ops.toList s) a w->Yn N P ops Q noT (s.length+fuel) listed a w
 | [],listed,a,w,hcl,hB,h=>by
  simp only [Ij,Option.some.injEq]at hB;subst hB;simp only [List.length_nil,Nat.zero_add];exact h hcl
 | (0,i)::r,listed,a,w,hcl,hB,h=>by
  simp only [Ij]at hB;split at hB
  .rename_i hc;simp only [Bool.and_eq_true]at hc;have hr':i∈Region.ready .any ops listed:=by simpa using hc.1
   obtain ⟨_,oi,ho,_⟩:=mem_ready.1 hr';have hn:nth ops.toList i=some oi:=by rw [Xk];simpa using ho
   simp only [Je,hn,Xs,Uk]at h;obtain ⟨v,hy,h⟩:=h;have e:((0,i)::r).length+fuel=(r.length+fuel)+1:=by simp;omega
   rw [e];exact Jlm (GrN N) (GrN.refl N) (λh k=>GrN.trans h k) ho (Region.noSelect_spec hsel) (λ_ _ _ _ _ _ _ hg=>hg rfl) _ listed a w hcl (Region.free_spec ho hc.2) hr' hy (Jws hsel fuel listed' r _ _ _ (hcl.step hr') hB h)
  .cases hB
 | (1,i)::r,listed,a,w,hcl,hB,h=>by
  simp only [Ij]at hB;split at hB
  .rename_i hc;have hc':Region.ready .any ops listed=[i]:=by simpa using hc
   have hr':i∈Region.ready .any ops listed:=by rw [hc'];exact List.mem_singleton.2 rfl
   obtain ⟨_,oi,ho,_⟩:=mem_ready.1 hr';have hn:nth ops.toList i=some oi:=by rw [Xk];simpa using ho
   simp only [Je,hn,Xs,Uk]at h;have e:((1,i)::r).length+fuel=(r.length+fuel)+1:=by simp;omega
   rw [e];refine ⟨λh0=>(by rw [h0]at hr';cases hr'),λj hj=>?_⟩;rw [hc']at hj;obtain rfl:j=i:=by simpa using hj
   have hcl':=hcl.step hr';unfold wpOp;simp only [ho];split
   .rename_i hw;simp only [hw,if_true]at h;exact .inl (Oper.wp_mono (λa' w' h'=>⟨λ_=>h'.1,Jws hsel fuel listed' r _ _ _ hcl' hB h'.2⟩) (Xqn h))
   .rename_i hw;simp only [hw]at h;exact ⟨λ_=>GrN.refl N w,Jws hsel fuel listed' r _ _ _ hcl' hB h⟩
  .cases hB
 | (k+2,i)::r,listed,a,w,_,hB,_=>by simp [Ij]at hB
def WM(N:Nat->Prop)(P:Program)(n:Nat)(ops:Array Oper)(Q:Exit->Act->World->Prop)(fuel:Nat)(listed:Array Bool)(al:AL)(w:World): Prop:=Closed ops listed->∀ a,Fr n al a->Yn N P ops Q noT fuel listed a w
theorem WM.sub{fuel:Nat}{listed:Array Bool}(hs:Sub al' al)(h:WM N P n ops Q fuel listed al' w): WM N P n ops Q fuel listed al w:=λo a u=>h o a (u.sub hs)
theorem drM{tt:TT}[ht:Tab P tt](N:Nat->Prop)(h:WM N P n l.toArray Q l.toArray.size (Array.replicate l.toArray.size false) al w.drew): WC P n (.region id l.toArray true) Q al w:=λa o=>
 wp_region_any ht.mixed (Jbs (N:=N) (T:=noT) _ _ _ _ (h (Qxd _ _) a o))
theorem Ug(s:List (Nat×Nat))(listed':Array Bool)(hsel:Region.noSelect l.toArray=true)(hB:Ij l.toArray s listed=some listed')(hf:fuel=s.length+fuel')(h:WN N P n l.toArray (Jqk N P l.toArray Q fuel' listed') (Je l s) al w): WM N P n l.toArray Q fuel listed al w:=λo a u=>by
 subst hf;have C:=h a u;refine Jws hsel fuel' listed' s listed a w o hB ?_;simpa using C
theorem Uh(h:WM N P n ops Q fuel listed al w): QX n (Jqk N P ops Q fuel listed) .normal al w:=λa u o=>h o a u
theorem mend(hr:Region.ready .any ops listed=[])(h:QX n Q .normal al w): WM N P n ops Q 0 listed al w:=λ_ a o=>⟨hr,h a o⟩
def Kg(N:Nat->Prop)(P:Program)(ops:Array Oper)(Q:Exit->Act->World->Prop)(w0:World)(fuel:Nat)(listed:Array Bool): Exit->Act->World->Prop
 | .normal,a,w=>GrN N w0 w/\(Closed ops listed->Yn N P ops Q noT fuel listed a w)
 | _,_,_=>False
theorem Xf(hx:GrN N w0 w)(h:WM N P n ops Q fuel listed al w): QX n (Kg N P ops Q w0 fuel listed) .normal al w:=λa u=>⟨hx,λo=>h o a u⟩
theorem Jbq(ho:ops[i]?=some o)(hc:Closed ops listed)(h:WL P n ops (Kg N P ops Q w fuel listed) [o] al w): ∀ a,Fr n al a->wpOp P ops (QF Q) i (λa' w'=>(noT i=false->GrN N w w')/\Yn N P ops Q noT fuel listed a' w') a w:=λa O=>by
 have u:=h a O;unfold wpList at u;unfold wpOp;simp only [ho];have C:¬ LetsOut (Kg N P ops Q w fuel listed):=by rintro ⟨a,w,h⟩;exact h
 split
 .rename_i hw;simp only [hw,if_true]at u;rcases u with u|⟨_,u⟩
  .left
   refine Oper.wp_mono (K:=wpList P ops (Kg N P ops Q w fuel listed) []) (λa' w' J=>⟨λ_=>J.1,J.2 hc⟩) ?_;unfold Oper.wp at u ⊢;exact Yc (Q:=Kg N P ops Q w fuel listed) (λc a w G=>G.elim) (λG=>absurd G C) u
  .exact absurd u C
 .rename_i hw;simp only [hw]at u;exact ⟨λ_=>u.1,u.2 hc⟩
theorem Jxc(i j:Nat)(hr:Region.ready .any l.toArray listed=[i,j])(hf:fuel=fuel'+1)(hi:nth l i=some oi)(hj:nth l j=some oj)(h1:WL P n l.toArray (Kg N P l.toArray Q w fuel' (listed.setIfInBounds i true)) [oi] al w)(h2:WL P n l.toArray (Kg N P l.toArray Q w fuel' (listed.setIfInBounds j true)) [oj] al w): WM N P n l.toArray Q fuel listed al w:=λC a G=>by
 subst hf;have O:l.toArray[i]?=some oi:=by rw [<-hi,Xk];simp
 have J:l.toArray[j]?=some oj:=by rw [<-hj,Xk];simp
 refine ⟨λh0=>(by rw [hr]at h0;cases h0),λk u=>?_⟩;have o:=u;rw [hr]at u;simp only [List.mem_cons,List.not_mem_nil,or_false]at u;rcases u with rfl|rfl
 .exact Jbq O (C.step o) h1 a G
 .exact Jbq J (C.step o) h2 a G
theorem Vs(i:Nat)(hr:Region.ready .any l.toArray listed=[i])(hf:fuel=fuel'+1)(hi:nth l i=some oi)(h1:WL P n l.toArray (Kg N P l.toArray Q w fuel' (listed.setIfInBounds i true)) [oi] al w): WM N P n l.toArray Q fuel listed al w:=λC a G=>by
 subst hf;have J:l.toArray[i]?=some oi:=by rw [<-hi,Xk];simp
 refine ⟨λh0=>(by rw [hr]at h0;cases h0),λk o=>?_⟩;have u:=o;rw [hr]at o;simp only [List.mem_cons,List.not_mem_nil,or_false]at o;subst o;exact Jbq J (C.step u) h1 a G
theorem Kq(e:listed=listed')(h:WM N P n ops Q fuel listed' al w): WM N P n ops Q fuel listed al w:=by subst e;exact h
theorem mcut{α:Type}(fuel':Nat)(L':Array Bool)(fr:α->AL)(I:α->World->Prop)(h2:∀ x w,I x w->WM N P n ops Q fuel' L' (fr x) w)(h1:(∀ x al w,I x w->Sub (fr x) al->WM N P n ops Q fuel' L' al w)->WM N P n ops Q fuel L al w): WM N P n ops Q fuel L al w:=h1 λx al w hi o=>(h2 x w hi).sub o
end
end Go.Wk
namespace Go.Wk
open Go.RowKit
variable {d n ty v:Nat}
theorem sl64{P:Program}{al:AL}{w:World}{Q:Exit->Act->World->Prop}{ops:Array Oper}{rest:List Oper}{pos:String}{aft:Array Edge}{y:Operand}{t yt:TypeId}(hv:v<64)(kk:WL P n ops Q rest ((d,.int .u64 ((2^v:Nat):Int))::al) w)(hy:ev al y=some (.int .i64 (v:Int)):=by rfl)(hd:Nat.blt d n=true:=by rfl):
  WL P n ops Q (⟨some d,.binOp .shl t (.const (.int .u64 1)) y yt,ty,pos,aft,none⟩::rest) al w:=by
 have e:IntKind.u64.wrap (1*2^(min ((v:Nat):Int).toNat IntKind.u64.bits))=((2^v:Nat):Int):=by
  have h:2^v<18446744073709551616:=nM (Nat.pow_lt_pow_right (by decide:1<2) hv) (by decide);rw [Int.toNat_natCast,Nat.min_eq_left (by show v<=64;omega),Int.one_mul];have:((2:Int)^v)=((2^v:Nat):Int):=by simp
  rw [this,IntKind.wrap_u64];generalize 2^v=p at *
  omega
 rw [<-e]at kk;exact wop hd (λa o=>Jzp (x:=.const (.int .u64 1)) rfl hy om o (some d) w) kk
end Go.Wk
namespace Go.Proofs.YtebcagekopgdhaaGreatDoor
open Go.RowKit Pl Go.Wk
attribute [local irreducible] WC WL QX WD WDB WP WN WG
variable {es:List Nat}{c e i n v x:Nat}{A:Option Addr}{w:World}
def Uc(es:List Nat): List Value:=es.map fun (e:Nat)=>Value.int .u32 (e:Int)
theorem Qkr(h:i<es.length): (Uc es)[i]?=some (.int .u32 (es.getD i 0:Int)):=by
 simp [Uc,List.getD,List.getElem?_eq_getElem h]
structure GrV(w:World)(A:Option Addr)(c n:Nat)(es:List Nat): Prop where
 rd:Rd w 1 A es.length (Uc es)
 cap:es.length<=c
 n32:n<=32
 few:es.length<=64
 lt:∀ e∈es,e<2^n
abbrev grC(A:Option Addr)(c n:Nat)(es:List Nat): List Value:=[.int .i64 (n:Int),.slice A es.length c]
theorem GrV.ext{w w':World}{A:Option Addr}{c n:Nat}{es:List Nat}(h:GrV w A c n es)(hx:Ext w w'): GrV w' A c n es:=⟨h.rd.ext hx,h.cap,h.n32,h.few,h.lt⟩
theorem Jqq(h:n<=32): 2^n<=4294967296:=Nat.pow_le_pow_right (n:=2) (by decide) h
theorem GrV.lt32(h:GrV w A c n es)(he:e∈es): e<4294967296:=nM (h.lt e he) (Jqq h.n32)
theorem Qms(hn:n<=32)(w:World): Ret Tryz.prog 184 [.int .i64 (n:Int)] w λu w'=>u=.int .u32 ((2^n-1:Nat):Int)/\w'=w:=by
 have C:=Jqq hn;have o:0<2^n:=Nat.two_pow_pos n;refine Jz Tryz.func184 Tryz.ntmps184 rfl kr rfl ?_;refine ρ ?_;refine sl64 (v:=n) om ?_;refine ρ ?_;refine Jj ⟨?_,rfl⟩;generalize 2^n=p at *
 congr 1
 rw [IntKind.wrap_u64,IntKind.wrap_u32];omega
theorem Xjz(h:e<2^n)(hn:n<=32): Gg e (2^n-1)=0:=by
 have u:=Jqq hn;have o:0<2^n:=Nat.two_pow_pos n;apply Nat.eq_of_testBit_eq
 intro i;rw [Jhm om om,Nat.testBit_two_pow_sub_one,Nat.zero_testBit];by_cases hi:i<n
 .rw [decide_eq_true hi];simp
 .rw [Nat.testBit_lt_two_pow (nM h (Nat.pow_le_pow_right (n:=2) (by decide) om))];rfl
theorem Qjd(h:GrV w A c n es): Ret Tryz.prog 161 [.agg (grC A c n es).toArray] w λu w'=>u=.int .i64 0/\Ext w w':=by
 have hn:=h.n32;have hf:=h.few;refine Jz Tryz.func161 Tryz.ntmps161 rfl kr rfl ?_;refine ρ ?_;refine bx (cs:=grC A c n es) ?_;intro w1 b C hb G;refine ρ ?_;refine ld (G.at (i:=0) rfl) ?_;refine ρ ?_;refine ld (G.at (i:=0) rfl) ?_;refine ρ ?_;refine cf ?_ ?_
 .exact dF om
 refine ρ ?_;refine ld (G.at (i:=1) rfl) ?_;refine ρ ?_;refine cf ?_ ?_
 .exact dF om
 refine ρ ?_;refine ld (G.at (i:=1) rfl) ?_;refine ρ ?_;refine Qd (fun (i:Nat)=>[(1,.pointer (some ⟨b,0,none⟩)),(18,.slice A es.length c),(19,.int .i64 (es.length:Int)),(20,.int .i64 (i:Int))])
  (λi w'=>i<=es.length/\Ext w1 w') (λi=>es.length-i) 0 sB ⟨Nat.zero_le _,Ext.refl _⟩ ?_
 rintro i w2 ⟨hi,o⟩;have O:=G.ext o;have U:=h.ext (C.trans o);refine ρ ?_;refine ci (λh=>?_) (λh=>?_)
 .have J:i<es.length:=by have:=oT h;omega
  clear h;have Z:=getD_mem' 0 es J;refine ρ ?_;refine ix i U.rd J ?_;refine ρ ?_;refine ld (U.rd.cell (Qkr J)) ?_;refine ρ ?_;refine ld (O.at (i:=0) rfl) ?_;refine ρ ?_;refine cl (Qms hn w2) ?_;rintro u w3 ⟨rfl,rfl⟩;have hp:=Jqq hn;have a1:0<2^n:=Nat.two_pow_pos n;refine ρ ?_;refine cf ?_ ?_
  .rw [Jhc (U.lt32 Z) om,Xjz (h.lt _ Z) hn];rfl
  refine ρ ?_;exact Qw (i+1) sO ⟨om,o⟩ om
 refine ρ ?_;exact Jj ⟨rfl,C.trans o⟩
def Xc(a:Nat->Nat): List Value:=(List.range 32).map λv=>.int .u32 (a v:Int)
theorem Yq(a:Nat->Nat): (Xc a).length=32:=by simp [Xc]
theorem Gx{a:Nat->Nat}(h:v<32): (Xc a)[v]?=some (.int .u32 (a v:Int)):=by simp [Xc,h]
theorem Jcp(a:Nat->Nat)(h:v<32): (Xc a).set v (.int .u32 (x:Int))=Xc (upd a v x):=by
 apply List.ext_getElem?
 intro i;rw [List.getElem?_set];by_cases e:v=i
 .subst e;rw [if_pos rfl,if_pos (by rw [Yq];exact h),Gx h,Jg]
 .rw [if_neg e];by_cases hi:i<32
  .rw [Gx hi,Gx hi,Jy _ _ (λo=>e o.symm)]
  .simp [Xc,hi]
theorem Jcq(a:Nat->Nat): ∀ u∈Xc a,u.oneCell'=true:=λu o=>by obtain ⟨e,_,rfl⟩:=List.mem_map.1 o;rfl
theorem Jzf: Qu Tryz.prog 199=some (.agg (Xc λ_=>0).toArray):=kr
theorem Jhv: Qu Tryz.prog 198=some (.agg (List.replicate 32 (Value.int .i64 0)).toArray):=kr
def AdjP(n:Nat)(es:List Nat)(a:Nat->Nat): Prop:=∀ v,v<32->a v<4294967296/\∀ x,(a v).testBit x=(decide (v<n) && (x != v) && es.any λe=>e.testBit v && e.testBit x)
theorem Jwz: (2^v).testBit x=decide (v=x):=Nat.testBit_two_pow
theorem Qmt(h:GrV w A c n es): Ret Tryz.prog 185 [.agg (grC A c n es).toArray] w λu w'=>Ext w w'/\∃ a,u=.agg (Xc a).toArray/\AdjP n es a:=by
 have hn:=h.n32;have hf:=h.few;refine Jz Tryz.func185 Tryz.ntmps185 rfl kr rfl ?_;refine ρ ?_;refine bx (cs:=grC A c n es) ?_;intro w1 b1 a5 au ag;refine ρ ?_;refine alc (cs:=Xc λ_=>0) Jzf ?_;intro w2 b2 a3 ar ao;refine ρ ?_;refine alc (cs:=Xc λ_=>0) Jzf ?_;intro w3 b3 a9 am an;have ap:=(a5.trans a3).trans a9;refine ρ ?_;refine ld (((ag.ext a3).ext a9).at (i:=1) rfl) ?_;refine ρ ?_;refine Ja (fun (i:Nat) (a:Nat->Nat)=>[(1,.pointer (some ⟨b1,0,none⟩)),(2,.pointer (some ⟨b2,0,none⟩)),(3,.pointer (some ⟨b3,0,none⟩)),(8,.slice A es.length c),(9,.int .i64 (es.length:Int)),(10,.int .i64 (i:Int))])
  (λi a w'=>i<=es.length/\Ext w2 w'/\Blk w' b3 199 (Xc a)/\AdjP n (es.take i) a) (λi _=>es.length-i) 0 (λ_=>0) sB
  ⟨Nat.zero_le _,a9,an,λv _=>⟨by simp only;omega,λx=>by simp⟩⟩ ?_
 rintro i a w4 ⟨hi,a2,a8,ha⟩;have af:=(ag.ext a3).ext a2;have ae:=ao.ext a2;have h4:=h.ext ((a5.trans a3).trans a2);refine ρ ?_;refine ci (λJ=>?_) (λJ=>?_)
 .have li:i<es.length:=by have:=oT J;omega
  clear J;have hm:=getD_mem' 0 es li;have C:=h4.lt32 hm;obtain ⟨e,he⟩:∃ e,e=es.getD i 0:=⟨_,rfl⟩;refine ρ ?_;refine ix i h4.rd li ?_;refine ρ ?_;refine ld (h4.rd.cell (Qkr li)) ?_;rw [<-he]at hm C ⊢;refine ρ ?_;refine ld (af.at (i:=0) rfl) ?_;refine ρ ?_;refine Ja (fun (v:Nat) (Z:Nat->Nat)=>[(1,.pointer (some ⟨b1,0,none⟩)),(2,.pointer (some ⟨b2,0,none⟩)),(3,.pointer (some ⟨b3,0,none⟩)),(8,.slice A es.length c),(9,.int .i64 (es.length:Int)),(10,.int .i64 (i:Int)),(5,.int .u32 (e:Int)),(15,.int .i64 (n:Int)),(16,.int .i64 (v:Int))])
   (λv Z w'=>v<=n/\Ext w2 w'/\Blk w' b3 199 (Xc Z)/\∀ u,u<32->Z u<4294967296/\∀ x,(Z u).testBit x=((a u).testBit x || (decide (u<v) && e.testBit u && e.testBit x && (x != u)))) (λv _=>n-v) 0 a sB
   ⟨Nat.zero_le _,a2,a8,λu U=>⟨(ha u U).1,λx=>by simp⟩⟩ ?_
  rintro v Z w5 ⟨hv,a1,a4,O⟩;refine ρ ?_;refine ci (λJ=>?_) (λJ=>?_)
  .have lv:v<n:=by have:=oT J;omega
   have o:v<32:=om
   clear J;have aa:=O v o;have ah:=Gt o;refine ρ ?_;refine Km (s:=e) (v:=v) om ?_;refine ρ ?_;refine ci (λJ=>?_) (λJ=>?_)
   .rw [Ua C]at J;have ab:Ext w5 w5.drew:=(Ext.refl w5).drew;have G:=a4.ext ab;refine ρ ?_;refine drN (λ_=>False) 10 [(0,0),(0,1),(0,2),(0,3),(0,4),(0,5),(0,6),(0,7),(0,8),(2,9)] kr ?_;refine ρn ?_;refine nixb v o ?_;refine ρn ?_;refine nld (Jm (G.atc (Gx o)) (λe=>e)) ?_;refine ρn ?_;refine Jdn o ?_;refine ρn ?_;refine nixb v o ?_;refine ρn ?_;refine Xd ?_;refine sto (p:=⟨b3,v,none⟩) (G.cell v |>.trans (Gx o)) (G.frozen _) ?_;have a6:=Qkh (t:=2^v) C;have ai:bits .or .u32 (Z v:Int) (bits .andNot .u32 (e:Int) ((2^v:Nat):Int))=((Z v ||| Gg e (2^v):Nat):Int):=by
     rw [Jhc C ah,Jjq aa.1 a6]
    rw [ai];have a7:=G.set v (.int .u32 ((Z v ||| Gg e (2^v):Nat):Int));rw [Jcp Z o]at a7;have ac:w2.heap.size<=b3:=am;refine ω5 ?_;refine Gw ?_;refine ρn ?_;refine ρ ?_;refine Jl (v+1) (upd Z v (Z v ||| Gg e (2^v))) sO ⟨om,(a1.trans ab).setCell ac _,a7,λu U=>?_⟩ om;by_cases e1:u=v
    .subst e1;rw [Jg];refine ⟨Jvt aa.1 a6,λx=>?_⟩;rw [Nat.testBit_or,Jhm C ah,Jwz,aa.2,J,decide_eq_true (Nat.lt_succ_self u),decide_eq_false (Nat.lt_irrefl u)];by_cases e2:u=x
     .subst e2;simp
     .rw [decide_eq_false e2,bne_iff_ne.2 (λe'=>e2 e'.symm)];simp
    .rw [Jy _ _ e1];refine ⟨(O u U).1,λx=>?_⟩;rw [(O u U).2];have:decide (u<v+1)=decide (u<v):=decide_eq_decide.2 om;rw [this]
   .rw [Ua C]at J;refine ρ ?_;refine Jl (v+1) Z sO ⟨om,a1,a4,λu U=>⟨(O u U).1,λx=>?_⟩⟩ om;rw [(O u U).2];by_cases e1:u=v
    .subst e1;rw [J];simp
    .have:decide (u<v+1)=decide (u<v):=decide_eq_decide.2 om;rw [this]
  .have aj:v=n:=by have:=oF J;omega
   subst aj;clear J;refine ρ ?_;refine Jl (i+1) Z sO ⟨om,a1,a4,λu U=>⟨(O u U).1,λx=>?_⟩⟩ om;rw [(O u U).2,(ha u U).2,Qy 0 li,<-he,List.any_append];simp only [List.any_cons,List.any_nil,Bool.or_false];cases decide (u<v)<;>cases (x != u)<;>simp
 .have ak:i=es.length:=by have:=oF J;omega
  subst ak;clear J;rw [List.take_length]at ha;refine ρ ?_;refine lda (cs:=Xc a) (λj u U=>a8.at U) (Yq a).symm ?_;refine ρ ?_;refine sta (cs':=Xc a) ae ?_ (Jcq a) (by rw [Yq,Yq]) (Yq a).symm;intro w5 ad aq a1;refine ρ ?_;exact Qjp ad (Yq a).symm ⟨a1 w ((a5.trans a3).trans a2) (by have:=a5.size;omega),a,rfl,ha⟩
open Go.RowKit Pl Go.Wk
variable {es:List Nat}{c f n v:Nat}{A:Option Addr}{w:World}
theorem Qmr(h:GrV w A c n es)(hv:v<n): Ret Tryz.prog 162 [.agg (grC A c n es).toArray,.int .i64 (v:Int)] w λu w'=>Ext w w'/\∃ a,u=.int .u32 (a v:Int)/\AdjP n es a:=by
 have hn:=h.n32;refine Jz Tryz.func162 Tryz.ntmps162 rfl kr rfl ?_;refine ρ ?_;refine bx (cs:=grC A c n es) ?_;intro w1 b C hb U;refine ρ ?_;refine lds (cs:=grC A c n es) (λj u O=>U.at O) ?_;refine ρ ?_;refine cl (Qjd (h.ext C)) ?_;rintro u w2 ⟨rfl,o⟩;have G:=U.ext o;refine ρ ?_;refine ld (G.at (i:=0) rfl) ?_;refine ρ ?_;refine cf ?_ ?_
 .exact dF om
 refine ρ ?_;refine lds (cs:=grC A c n es) (λj u O=>G.at O) ?_;refine ρ ?_;refine cl (Qmt (h.ext (C.trans o))) ?_;rintro u w3 ⟨J,a,rfl,Z⟩;refine ρ ?_;refine idx v (show v<32 by omega) (Gx (show v<32 by omega)) ?_;refine ρ ?_;exact Jj ⟨(C.trans o).trans J,a,rfl,Z⟩
theorem Qnz(h:GrV w A c n es): Ret Tryz.prog 127 [.agg (grC A c n es).toArray] w λu w'=>Ext w w'/\∃ a,u=.agg (Xc a).toArray/\AdjP n es a:=by
 have hn:=h.n32;refine Jz Tryz.func127 Tryz.ntmps127 rfl kr rfl ?_;refine ρ ?_;refine bx (cs:=grC A c n es) ?_;intro w1 b1 a5 ah aa;refine ρ ?_;refine alc (cs:=Xc λ_=>0) Jzf ?_;intro w2 b2 a3 ag ae;refine ρ ?_;refine alc (cs:=Xc λ_=>0) Jzf ?_;intro w3 b3 a4 ac ad;refine ρ ?_;refine ld (((aa.ext a3).ext a4).at (i:=0) rfl) ?_;refine ρ ?_;refine Ja (fun (v:Nat) (a:Nat->Nat)=>[(1,.pointer (some ⟨b1,0,none⟩)),(2,.pointer (some ⟨b2,0,none⟩)),(3,.pointer (some ⟨b3,0,none⟩)),(6,.int .i64 (n:Int)),(7,.int .i64 (v:Int))])
  (λv a w'=>v<=n/\Ext w2 w'/\Blk w' b3 199 (Xc a)/\∀ u,u<32->a u<4294967296/\∀ x,(a u).testBit x=(decide (u<v) && (x != u) && es.any λe=>e.testBit u && e.testBit x)) (λv _=>n-v) 0 (λ_=>0) sB
  ⟨Nat.zero_le _,a4,ad,λu O=>⟨by simp only;omega,λx=>by simp⟩⟩ ?_
 rintro v a w4 ⟨hv,J,a1,ha⟩;have a9:=(aa.ext a3).ext J;have a8:=ae.ext J;have U:=(a5.trans a3).trans J;refine ρ ?_;refine ci (λhc=>?_) (λhc=>?_)
 .have lv:v<n:=by have:=oT hc;omega
  have o:v<32:=om
  clear hc;refine ρ ?_;refine lds (cs:=grC A c n es) (λj u O=>a9.at O) ?_;refine ρ ?_;refine cl (Qmr (h.ext U) lv) ?_;rintro u w5 ⟨G,a2,rfl,a6⟩;have C:=a1.ext G;refine ρ ?_;refine ixb v o ?_;refine ρ ?_;refine sto (p:=⟨b3,v,none⟩) (C.cell v |>.trans (Gx o)) (C.frozen _) ?_;have Z:=C.set v (.int .u32 ((a2 v:Nat):Int));rw [Jcp a o]at Z;refine ρ ?_;refine Jl (v+1) (upd a v (a2 v)) sO ⟨om,(J.trans G).setCell ac _,Z,λu O=>?_⟩ om;by_cases e:u=v
  .subst e;rw [Jg,decide_eq_true (Nat.lt_succ_self u)];refine ⟨(a6 u O).1,λx=>?_⟩;rw [(a6 u O).2,decide_eq_true lv]
  .rw [Jy _ _ e];refine ⟨(ha u O).1,λx=>?_⟩;have:decide (u<v+1)=decide (u<v):=decide_eq_decide.2 om;rw [(ha u O).2,this]
 .have ab:v=n:=by have:=oF hc;omega
  subst ab;clear hc;refine ρ ?_;refine lda (cs:=Xc a) (λj u O=>a1.at O) (Yq a).symm ?_;refine ρ ?_;refine sta (cs':=Xc a) a8 ?_ (Jcq a) (by rw [Yq,Yq]) (Yq a).symm;intro w5 a7 af G;refine ρ ?_;exact Qjp a7 (Yq a).symm ⟨G w U (by have:=a5.size;omega),a,rfl,ha⟩
theorem Qnw(h:GrV w A c n es)(hf:f<=n): Ret Tryz.prog 126 [.agg (grC A c n es).toArray,.int .i64 (f:Int)] w λu w'=>u=.int .i64 0/\Ext w w':=by
 have hn:=h.n32;refine Jz Tryz.func126 Tryz.ntmps126 rfl kr rfl ?_;refine ρ ?_;refine bx (cs:=grC A c n es) ?_;intro Z b C hb J;refine ρ ?_;refine lds (cs:=grC A c n es) (λj u O=>J.at O) ?_;refine ρ ?_;refine cl (Qjd (h.ext C)) ?_;rintro u U ⟨rfl,o⟩;have G:=J.ext o;refine ρ ?_;refine ld (G.at (i:=0) rfl) ?_;refine ρ ?_;refine cf ?_ ?_
 .exact dF om
 refine ρ ?_;exact Jj ⟨rfl,C.trans o⟩
end Go.Proofs.YtebcagekopgdhaaGreatDoor
namespace Go.Proofs.YtebcagekopgdhaaGreatDoor
open Pl Go.Wk
variable {es l ord perm:List Nat}{e i j k n u v x:Nat}{f g:Nat->List Value}
def nb0(n:Nat)(es:List Nat)(u x:Nat): Bool:=decide (u<n) && (x != u) && es.any λe=>e.testBit u && e.testBit x
theorem Xjf(he:e<2^n)(h:e.testBit u=true): u<n:=Jxz he h
theorem Jxb(he:∀ e∈es,e<2^n)(h:nb0 n es u x=true): u<n/\x<n/\x≠u:=by
 simp only [nb0,Bool.and_eq_true,decide_eq_true_eq,bne_iff_ne,List.any_eq_true]at h;obtain ⟨⟨J,G⟩,e,o,_,C⟩:=h;exact ⟨J,Xjf (he e o) C,G⟩
theorem Jsj(he:∀ e∈es,e<2^n): NbInv [] (nb0 n es):=by
 refine ⟨λu x _ _=>?_,λu x _ h=>⟨by simp,(Jxb he h).2.2⟩⟩;rw [Bool.eq_iff_iff];have key:∀ u x,nb0 n es u x=true->nb0 n es x u=true:=λu x h=>by
  have o:=Jxb he h;simp only [nb0,Bool.and_eq_true,decide_eq_true_eq,bne_iff_ne,List.any_eq_true]at h ⊢;obtain ⟨⟨_,_⟩,e,C,J,G⟩:=h;exact ⟨⟨o.2.1,λe=>o.2.2 e.symm⟩,e,C,G,J⟩
 exact ⟨key u x,key x u⟩
theorem Jsd: ∀ (k:Nat) {l:List Nat},l.Nodup->(∀ u∈l,u<k)->l.length<=k
 | 0,[],_,_=>Nat.le_refl _
 | 0,u::l,_,h=>absurd (h u (mC ..)) om
 | k+1,l,hn,h=>by
  have h1:=Jsd k (l:=l.filter λu=>u != k) (hn.sublist List.filter_sublist) (λu hu=>by
   obtain ⟨h2,h3⟩:=List.mem_filter.1 hu;have:=h u h2;have:u≠k:=bne_iff_ne.1 h3;omega)
  have h2:l.length<=(l.filter λu=>u != k).length+1:=by
   clear h h1;induction l with
   | nil=>simp
   | cons x l ih=>
    obtain ⟨h3,h4⟩:=List.nodup_cons.1 hn;by_cases e:x=k
    .subst e;have e2:l.filter (λu=>u != x)=l:=List.filter_eq_self.2 λu hu=>bne_iff_ne.2 λe'=>h3 (by rw [<-e'];exact hu);rw [List.filter_cons_of_neg (by simp),e2,List.length_cons];omega
    .rw [List.filter_cons_of_pos (p:=λu=>u != k) (bne_iff_ne.2 e),List.length_cons,List.length_cons];have:=ih h4;omega
  omega
theorem Qgn(hn:l.Nodup)(hlt:∀ u∈l,u<k)(hlen:l.length=k)(hu:u<k): u∈l:=by
 refine Classical.byContradiction λh=>?_;have:=Jsd k (l:=u::l) (List.nodup_cons.2 ⟨h,hn⟩) (λx o=>by
  rcases List.mem_cons.1 o with rfl|o
  .exact hu
  .exact hlt x o)
 rw [List.length_cons]at this;omega
def Qv(perm:List Nat)(f:Nat): List Nat:=perm++(List.range f).reverse
structure PermOk(n f:Nat)(perm:List Nat): Prop where
 fn:f<=n
 len:perm.length=n-f
 rng:∀ v∈perm,f<=v/\v<n
 nd:perm.Nodup
theorem PermOk.olen{f:Nat}(h:PermOk n f perm): (Qv perm f).length=n:=by
 have:=h.len;have:=h.fn;simp [Qv];omega
theorem PermOk.ond{f:Nat}(h:PermOk n f perm): (Qv perm f).Nodup:=by
 refine List.nodup_append.2 ⟨h.nd,List.pairwise_reverse.2 (List.nodup_range.imp λh=>h.symm),λu C v o e=>?_⟩;have J:=(h.rng u C).1;have G:=List.mem_range.1 (List.mem_reverse.1 o);omega
theorem PermOk.olt{f:Nat}(h:PermOk n f perm)(hu:u∈Qv perm f): u<n:=by
 rcases List.mem_append.1 hu with h1|h1
 .exact (h.rng u h1).2
 .have:=List.mem_range.1 (List.mem_reverse.1 h1);have:=h.fn;omega
theorem PermOk.omem{f:Nat}(h:PermOk n f perm): u∈Qv perm f↔u<n :=
 ⟨h.olt,λo=>Qgn h.ond (λ_=>h.olt) h.olen o⟩
theorem Jvr(hn:ord.Nodup)(hi:i<ord.length): pre ord (ord.getD i 0)=ord.take i:=by
 have e:ord=ord.take i++ord.getD i 0::ord.drop (i+1):=by
  rw [Jp 0 ord hi,<-List.drop_eq_getElem_cons hi,List.take_append_drop]
 have o:ord.getD i 0 ∉ ord.take i:=λu=>by
  rw [e,List.nodup_append]at hn;exact hn.2.2 _ u _ (mC ..) rfl
 have:=Jdj (r:=ord.drop (i+1)) o;rw [<-e]at this;exact this
def plc(ord:List Nat)(u:Nat): Nat:=(pre ord u).length
theorem Io(hn:ord.Nodup)(hi:i<ord.length): plc ord (ord.getD i 0)=i:=by
 rw [plc,Jvr hn hi,List.length_take];omega
theorem Ue(hn:ord.Nodup)(hu:u∈ord): plc ord u<ord.length/\ord.getD (plc ord u) 0=u:=by
 obtain ⟨i,hi,e⟩:=List.getElem_of_mem hu;have o:=Io hn hi;rw [Jp 0 ord hi,e]at o;rw [o];exact ⟨hi,by rw [Jp 0 ord hi,e]⟩
theorem Jfk(hn:ord.Nodup)(hv:v∈ord)(hu:u∈ord): Jwn ord v u↔plc ord v<=plc ord u:=by
 obtain ⟨U,O⟩:=Ue hn hv;obtain ⟨J,G⟩:=Ue hn hu;have e:pre ord v=ord.take (plc ord v):=by have:=Jvr hn U;rw [O]at this;exact this
 unfold Jwn;rw [e];constructor
 .intro h;rcases Nat.lt_or_ge (plc ord u) (plc ord v) with h5|h5
  .exfalso
   apply h
   refine List.mem_iff_getElem.2 ⟨plc ord u,by rw [List.length_take];omega,?_⟩;rw [List.getElem_take,<-Jp 0 ord J];exact G
  .exact h5
 .intro h o;obtain ⟨j,C,e⟩:=List.getElem_of_mem o;rw [List.length_take]at C;rw [List.getElem_take]at e;have:=Io hn (show j<ord.length by omega);rw [Jp 0 ord om,e]at this;omega
def Qh(n:Nat)(f:Nat->List Value): List Value:=(List.range n).flatMap f
theorem Jjj(n:Nat)(f:Nat->List Value): Qh (n+1) f=Qh n f++f n:=by simp [Qh,List.range_succ,List.flatMap_append]
theorem Jkp{sz:Nat}(h:∀ i,i<n->(f i).length=sz): (Qh n f).length=n*sz:=by
 induction n with
 | zero=>simp [Qh]
 | succ n ih=>rw [Jjj,List.length_append,ih (λi hi=>h i om),h n om,Nat.succ_mul]
theorem Jyp(h:∀ i,i<n->f i=g i): Qh n f=Qh n g:=by
 induction n with
 | zero=>rfl
 | succ n ih=>rw [Jjj,Jjj,ih (λi hi=>h i om),h n om]
theorem Jjk{sz:Nat}(h:∀ i,i<n->(f i).length=sz)(hi:i<n)(hj:j<sz): (Qh n f)[i*sz+j]?=(f i)[j]?:=by
 induction n with
 | zero=>omega
 | succ n ih=>
  have o:=Jkp (n:=n) (λi hi=>h i om);rw [Jjj];by_cases e:i=n
  .subst e;rw [List.getElem?_append_right om,o,Nat.add_sub_cancel_left]
  .have:i*sz+j<n*sz:=by
    have:(i+1)*sz<=n*sz:=nO _ om;rw [Nat.succ_mul]at this;omega
   rw [List.getElem?_append_left om];exact ih (λi hi=>h i om) om
theorem Qnf{sz:Nat}(h:∀ i,i<n->(f i).length=sz)(hi:i<n){cs:List Value}(hc:cs.length=sz): (Qh n f).take (i*sz)++cs++(Qh n f).drop (i*sz+sz)=Qh n (upd f i cs):=by
 induction n with
 | zero=>omega
 | succ n ih=>
  have C:=Jkp (n:=n) (λi hi=>h i om);have o:=h n om;rw [Jjj,Jjj];by_cases e:i=n
  .subst e;rw [List.take_append_of_le_length om,List.take_of_length_le om,List.drop_of_length_le (by rw [List.length_append];omega),List.append_nil,Jg];congr 1
   exact Jyp λk G=>(Jy _ _ om).symm
  .have J:i*sz+sz<=n*sz:=by
    have:(i+1)*sz<=n*sz:=nO _ om;rw [Nat.succ_mul]at this;exact this
   rw [List.take_append_of_le_length om,List.drop_append_of_le_length om,<-List.append_assoc,ih (λi hi=>h i om) om,Jy _ _ (λu=>e u.symm)]
open Go.RowKit Pl Go.Wk
attribute [local irreducible] WC WL QX WD WDB WP WN WG
variable {es perm:List Nat}{v x:Nat}
def Vb(o:Nat->Nat): List Value:=(List.range 32).map λi=>.int .i64 (o i:Int)
theorem Jtt(o:Nat->Nat): (Vb o).length=32:=by simp [Vb]
theorem Ul{o:Nat->Nat}(h:v<32): (Vb o)[v]?=some (.int .i64 (o v:Int)):=by simp [Vb,h]
theorem Jts(o:Nat->Nat)(h:v<32): (Vb o).set v (.int .i64 (x:Int))=Vb (upd o v x):=by
 apply List.ext_getElem?
 intro i;rw [List.getElem?_set];by_cases e:v=i
 .subst e;rw [if_pos rfl,if_pos (by rw [Jtt];exact h),Ul h,Jg]
 .rw [if_neg e];by_cases hi:i<32
  .rw [Ul hi,Ul hi,Jy _ _ (λu=>e u.symm)]
  .simp [Vb,hi]
theorem Qmg(h:perm.length<=32): Jt (nz perm)++(List.replicate 32 (Value.int .i64 0)).drop perm.length=Vb λi=>perm.getD i 0:=by
 have o:(Jt (nz perm)).length=perm.length:=by simp [Jt,nz]
 apply List.ext_getElem?
 intro i;by_cases hi:i<perm.length
 .rw [List.getElem?_append_left om,Xn hi,Ul om]
 .rw [List.getElem?_append_right om,o,List.getElem?_drop];by_cases h3:i<32
  .rw [Ul h3];have:perm.getD i 0=0:=by simp [List.getD,List.getElem?_eq_none (Nat.le_of_not_lt hi)]
   rw [this];have e:perm.length+(i-perm.length)=i:=om
   rw [e,List.getElem?_replicate,if_pos h3];rfl
  .rw [List.getElem?_eq_none (by simp;omega),List.getElem?_eq_none (by rw [Jtt];omega)]
def Qf(kf:Nat->Nat)(pf:Nat->Int)(v:Nat): List Value:=[.int .i64 (v:Int),.int .u32 (kf v:Int),.int .i64 (pf v)]
def Jjt(n:Nat)(es ord:List Nat)(kf:Nat->Nat)(pf:Nat->Int): Prop:=∀ v,v<n->kf v<4294967296/\(∀ x,(kf v).testBit x=Zb (nb0 n es) ord v x) /\
 ((pf v = -1/\∀ x,Zb (nb0 n es) ord v x=false)∨∃ p:Nat,pf v=p/\Zb (nb0 n es) ord v p=true/\∀ x,Zb (nb0 n es) ord v x=true->plc ord p<=plc ord x)
theorem EBg: ElT Tryz.prog 25 187 3 24 (.agg #[.int .i64 0,.int .u32 0,.int .i64 0]):=⟨Tryz.underlying25,info_parts kr,rfl,by decide⟩
theorem zBag: Qu Tryz.prog 187=some (.agg #[.int .i64 0,.int .u32 0,.int .i64 0]):=kr
theorem Qtw(v k:Int)(w:World): (Instr.build 187 #[(0,.int .i64 v),(1,.int .u32 k),(2,.int .i64 (-1))]).run Tryz.prog w=.ok (.agg #[.int .i64 v,.int .u32 k,.int .i64 (-1)]) w:=kr
theorem Jzw{a b c:Int}: ∀ u∈[Value.int .i64 a,.int .u32 b,.int .i64 c],u.oneCell'=true:=λu o=>by
 simp only [List.mem_cons,List.not_mem_nil,or_false]at o;rcases o with rfl|rfl|rfl<;>rfl
theorem Qhp{zs:List Value}(h:0<zs.length)(n:Nat): (madeCells zs.toArray (n*zs.length)).toList=Qh n λ_=>zs:=by
 apply List.ext_getElem?
 intro k;by_cases hk:k<n*zs.length
 .have C:k / zs.length<n:=Nat.div_lt_of_lt_mul (by rw [Nat.mul_comm];exact hk);have o:=Nat.mod_lt k h;have u:=Jjk (n:=n) (sz:=zs.length) (f:=λ_=>zs) (λ_ _=>rfl) C o;rw [Nat.div_add_mod' k zs.length]at u;rw [u];simp only [madeCells,Array.getElem?_toList,Array.getElem?_map,Array.getElem?_range,hk,if_true,Option.map_some];simp [o]
 .have G:=Jkp (n:=n) (sz:=zs.length) (f:=λ_=>zs) (λ_ _=>rfl);rw [List.getElem?_eq_none (by simp [madeCells];omega),List.getElem?_eq_none om]
theorem made3(n:Nat): (madeCells (Value.agg #[.int .i64 0,.int .u32 0,.int .i64 0]).cells (n*3)).toList=Qh n λ_=>[.int .i64 0,.int .u32 0,.int .i64 0]:=Qhp (zs:=[.int .i64 0,.int .u32 0,.int .i64 0]) (by simp) n
def Uj(ord:List Nat)(kf:Nat->Nat)(pf:Nat->Int)(j v:Nat): List Value:=if plc ord v<j then Qf kf pf v else [.int .i64 0,.int .u32 0,.int .i64 0]
theorem Xjp(ord:List Nat)(kf:Nat->Nat)(pf:Nat->Int)(j v:Nat): (Uj ord kf pf j v).length=3:=by unfold Uj;split<;>rfl
def BagAt(n:Nat)(es ord:List Nat)(v k:Nat)(p:Int): Prop:=k<4294967296/\(∀ x,k.testBit x=Zb (nb0 n es) ord v x) /\
 ((p = -1/\∀ x,Zb (nb0 n es) ord v x=false)∨∃ q:Nat,p=q/\Zb (nb0 n es) ord v q=true/\∀ x,Zb (nb0 n es) ord v x=true->plc ord q<=plc ord x)
theorem Qqc(x y:Nat): decide (x=y) = !(y != x):=by
 by_cases h:x=y
 .subst h;simp
 .rw [decide_eq_false h,bne_iff_ne.2 (λe=>h e.symm)];rfl
theorem Qnx{w:World}{A PA:Option Addr}{c pc n f:Nat}(h:GrV w A c n es)(hp:PermOk n f perm)(hP:Rd w 1 PA perm.length (Jt (nz perm))):
  Ret Tryz.prog 80 [.agg (grC A c n es).toArray,.int .i64 (f:Int),.slice PA perm.length pc] w λu w'=>Ext w w'/\∃ B kf pf,u=.tuple #[.slice B n n,.int .i64 0]/\w'.ownsRow w.heap.size 187 3 (.slice B n n) n (Qh n (Qf kf pf))/\Jjt n es (Qv perm f) kf pf:=by
 have hn:=h.n32;have ex:=hp.fn;have f8:=hp.len;refine Jz Tryz.func80 Tryz.ntmps80 rfl kr rfl ?_;refine ρ ?_;refine bx (cs:=grC A c n es) ?_;intro w1 b3 dn fb e7;refine ρ ?_;refine lds (cs:=grC A c n es) (λj u hu=>e7.at hu) ?_;refine ρ ?_;refine cl (Qnw (h.ext dn) ex) ?_;rintro u w2 ⟨rfl,di⟩;have bf:=dn.trans di;refine ρ ?_;refine Ja (fun (i:Nat) (s:Nat)=>[(1,.int .i64 (f:Int)),(2,.slice PA perm.length pc),(3,.pointer (some ⟨b3,0,none⟩)),(9,.int .u32 (s:Int)),(28,.slice PA perm.length pc),(29,.int .i64 (perm.length:Int)),(30,.int .i64 (i:Int))])
  (λi s w'=>i<=perm.length/\w'=w2/\s<4294967296/\∀ x,s.testBit x=true->x∈perm.take i) (λi _=>perm.length-i) 0 0 sB
  ⟨Nat.zero_le _,rfl,om,λx O=>by simp at O⟩ ?_
 rintro i s w' ⟨hi,rfl,hs,d5⟩;have af:=e7.ext di;refine ρ ?_;refine ci (λZ=>?_) (λZ=>?_)
 .have li:i<perm.length:=by have:=oT Z;omega
  clear Z;have e5:=hP.ext bf;have hv:=hp.rng _ (getD_mem' 0 perm li);obtain ⟨v,ev⟩:∃ v,v=perm.getD i 0:=⟨_,rfl⟩;refine ρ ?_;refine ix i e5 li ?_;refine ρ ?_;refine ld (e5.cell (Xn li)) ?_;rw [<-ev]at hv ⊢;refine ρ ?_;refine kf 37 ?_ ?_
  .exact dF om
  refine ρ ?_;refine ld (af.at (i:=0) rfl) ?_;refine ρ ?_;refine kf 43 ?_ ?_
  .exact dF om
  refine ρ ?_;refine Km (s:=s) (v:=v) om ?_;have du:perm.take (i+1)=perm.take i++[v]:=by rw [Qy 0 li,ev]
  have ep:v ∉ perm.take i:=λhm=>by
   have J:(perm.take (i+1)).Nodup:=hp.nd.sublist (List.take_sublist _ _);rw [du,List.nodup_append]at J;exact J.2.2 _ hm _ (List.mem_singleton.2 rfl) rfl
  refine ρ ?_;refine cf ?_ ?_
  .rw [Ua hs];cases hb:s.testBit v with
   | false=>rfl
   | true=>exact absurd (d5 v hb) ep
  have ch:=Gt (show v<32 by omega);refine ρ ?_;refine sl32 (v:=v) om ?_;refine ρ ?_;rw [Jjq hs ch];refine ρ ?_;refine Jl (i+1) (s ||| 2^v) sO ⟨om,rfl,Jvt hs ch,λx O=>?_⟩ om;rw [Nat.testBit_or,Jwz,Bool.or_eq_true,decide_eq_true_eq]at O;rw [du,List.mem_append,List.mem_singleton];rcases O with O|O
  .exact .inl (d5 x O)
  .exact .inr O.symm
 clear Z hs d5 hi;refine ρ ?_;refine ld (af.at (i:=0) rfl) ?_;refine ρ ?_;refine cf ?_ ?_
 .exact Qzd om
 refine ρ ?_;refine alc (cs:=List.replicate 32 (Value.int .i64 0)) Jhv ?_;intro w3 a8 c2 cz cg;refine ρ ?_;refine alc (cs:=List.replicate 32 (Value.int .i64 0)) Jhv ?_;intro w4 a1 cj cy e8;have ce:=cg.ext cj;have dg:=(bf.trans c2).trans cj;refine ρ ?_;refine sla ?_;refine ρ ?_;refine cpb (dl:=32) (dc:=32) ce (hP.ext dg) om (by simp) (λu hu=>?_) ?_
 .obtain ⟨z,_,rfl⟩:=List.mem_map.1 hu;rfl
 intro w5 cd d9;rw [Qmg om]at cd;have d8:a1≠a8:=λe=>by have:=cg.lt;omega
 have db:Blk w5 a1 198 (Vb λ_=>0):=by
  have J:=e8.grown d9 (λe=>by injection e with e;exact d8 e);exact J
 have e6:Blk w5 b3 149 (grC A c n es):=by
  have J:=(af.ext (c2.trans cj)).grown d9 (λe=>by injection e with e;have:=af.lt;omega);exact J
 have c8:w'.heap.size<=a8:=cz;have eh:Ext w' w5:=Jyl (c2.trans cj) d9 c8;obtain ⟨ord,ak⟩:∃ ord,ord=Qv perm f:=⟨_,rfl⟩;have c4:ord.length=n:=by rw [ak];exact hp.olen
 have a3:ord.Nodup:=by rw [ak];exact hp.ond
 have b7:∀ {u},u∈ord↔u<n:=fun {u}=>by rw [ak];exact hp.omem
 have cv:∀ i,i<n->ord.getD i 0<n:=λi hi=>b7.1 (getD_mem' 0 ord (c4.symm ▸ hi));clear cg ce;refine ρ ?_;refine Ja (fun (k:Nat) (o:Nat->Nat)=>[(1,.int .i64 (f:Int)),(2,.slice PA perm.length pc),(3,.pointer (some ⟨b3,0,none⟩)),(12,.pointer (some ⟨a8,0,none⟩)),(13,.pointer (some ⟨a1,0,none⟩)),(65,.int .i64 (f:Int)),(66,.int .i64 (k:Int))])
  (λk o w6=>k<=f/\Ext w' w6/\Blk w6 b3 149 (grC A c n es)/\Blk w6 a8 198 (Vb o)/\Blk w6 a1 198 (Vb λ_=>0)/\∀ j,j<perm.length+k->o j=ord.getD j 0) (λk _=>f-k) 0 (λi=>perm.getD i 0) sB
  ⟨Nat.zero_le _,eh,e6,cd,db,λj hj=>?_⟩ ?_
 .rw [ak];simp [Qv,List.getD,List.getElem?_append_left (show j<perm.length by omega)]
 rintro k o w6 ⟨hk,d2,bm,ah,be,ho⟩;refine ρ ?_;refine ci (λZ=>?_) (λZ=>?_)
 .have lk:k<f:=by have:=oT Z;omega
  clear Z;have d6:perm.length+k<32:=om
  refine ρ ?_;refine ixb (perm.length+k) d6 ?_;refine ρ ?_;have ev:(f:Int)-1-(k:Int)=((f-1-k:Nat):Int):=om
  rw [ev];refine sto (p:=⟨a8,perm.length+k,none⟩) (ah.cell _ |>.trans (Ul d6)) (ah.frozen _) ?_;have U:=ah.set (perm.length+k) (.int .i64 ((f-1-k:Nat):Int));rw [Jts o d6]at U;refine ρ ?_;refine Jl (k+1) (upd o (perm.length+k) (f-1-k)) sO ⟨om,d2.setCell c8 _,bm.far (by simp only;have:=af.lt;omega) _,U,be.far (λe=>d8 e) _,λj hj=>?_⟩ om;by_cases e:j=perm.length+k
  .subst e;rw [Jg,ak];simp only [Qv,List.getD];rw [List.getElem?_append_right om,Nat.add_sub_cancel_left,List.getElem?_reverse (by simp;omega),List.length_range,List.getElem?_range om];rfl
  .rw [Jy _ _ e];exact ho j om
 have et:k=f:=by have:=oF Z;omega
 subst et;clear Z;have em:perm.length+k=n:=om
 rw [em]at ho;refine ρ ?_;refine ld (bm.at (i:=0) rfl) ?_;refine ρ ?_;refine Ja (fun (i:Nat) (q:Nat->Nat)=>[(2,.slice PA perm.length pc),(3,.pointer (some ⟨b3,0,none⟩)),(12,.pointer (some ⟨a8,0,none⟩)),(13,.pointer (some ⟨a1,0,none⟩)),(80,.int .i64 (n:Int)),(81,.int .i64 (i:Int))])
  (λi q w7=>i<=n/\Ext w' w7/\Blk w7 b3 149 (grC A c n es)/\Blk w7 a8 198 (Vb o)/\Blk w7 a1 198 (Vb q)/\∀ u,u<n->plc ord u<i->q u=plc ord u) (λi _=>n-i) 0 (λ_=>0) sB
  ⟨Nat.zero_le _,d2,bm,ah,be,λu _ hu=>om⟩ ?_
 clear d2 bm ah be;rintro i q w7 ⟨hi,bw,b8,U,a9,hq⟩;refine ρ ?_;refine ci (λZ=>?_) (λZ=>?_)
 .have li:i<n:=by have:=oT Z;omega
  clear Z;have f9:=cv i li;have en:=ho i li;refine ρ ?_;refine ixb i (show i<32 by omega) ?_;refine ρ ?_;refine ld (U.atc (Ul (show i<32 by omega))) ?_;rw [en];refine ρ ?_;refine ixb (ord.getD i 0) (show ord.getD i 0<32 by omega) ?_;refine ρ ?_;refine sto (p:=⟨a1,ord.getD i 0,none⟩) (a9.cell _ |>.trans (Ul (show ord.getD i 0<32 by omega))) (a9.frozen _) ?_;have cc:=a9.set (ord.getD i 0) (.int .i64 (i:Int));rw [Jts q (show ord.getD i 0<32 by omega)]at cc;have c7:w'.heap.size<=a1:=nL c2.size cy;refine ρ ?_;refine Jl (i+1) (upd q (ord.getD i 0) i) sO ⟨om,bw.setCell c7 _,b8.far (by simp only;have:=af.lt;omega) _,U.far (λe=>d8 e.symm) _,cc,λu hu er=>?_⟩ om;by_cases e:u=ord.getD i 0
  .rw [e,Jg,Io a3 (c4.symm ▸ li)]
  .rw [Jy _ _ e];refine hq u hu ?_;have J:=Ue a3 (b7.2 hu);rcases Nat.lt_or_ge (plc ord u) i with h2|h2
   .exact h2
   .have:plc ord u=i:=om
    rw [this]at J;exact absurd J.2.symm e
 have ew:i=n:=by have:=oF Z;omega
 subst ew;clear Z;have dq:∀ u,u<i->q u=plc ord u:=λu hu=>hq u hu (by have:=(Ue a3 (b7.2 hu)).1;omega);have c1:=bf.trans bw;refine ρ ?_;refine lds (cs:=grC A c i es) (λj u hu=>b8.at hu) ?_;refine ρ ?_;refine cl (Qnz (h.ext c1)) ?_;rintro u w8 ⟨dh,a0,rfl,e4⟩;refine ρ ?_;refine alc (cs:=Xc λ_=>0) Jzf ?_;intro w9 a4 ef cx b9;refine ρ ?_;refine sta (cs':=Xc a0) b9 ?_ (Jcq a0) (by rw [Yq,Yq]) (Yq a0).symm;intro bv b9 f0 dm;have d1:Ext w8 bv:=dm w8 ef cx;have ae:=dh.trans d1;have bd:=b8.ext ae;refine ρ ?_;refine ld (bd.at (i:=0) rfl) ?_;refine ρ ?_;refine mkn EBg i om (by unfold maxLen;omega) ?_;intro f4 B bg au _;rw [made3]at au;have ad:=ae.trans bg;have bc:=bd.ext bg;have bs:=U.ext ad;have bq:=a9.ext ad;have bp:=b9.ext bg;have ee:=c1.trans ad;refine ρ ?_;refine ld (bc.at (i:=0) rfl) ?_;have ed:w'.heap.size<=a8:=cz;have f6:a1<w7.heap.size:=a9.lt;have f7:a8<w7.heap.size:=U.lt
 have l3:b3<w7.heap.size:=b8.lt;have f5:w7.heap.size<=a4:=nL dh.size cx;have df:a4<bv.heap.size:=b9.lt;have c7:w'.heap.size<=a1:=nL c2.size cy;have e9:Qh i (λ_=>[Value.int .i64 0,.int .u32 0,.int .i64 0])=Qh i (Uj ord (λ_=>0) (λ_=>0) 0):=Jyp λv _=>by simp [Uj]
 have e0:∀ e∈es,e<2^i:=h.lt;rw [e9]at au;refine ρ ?_;refine Jqc (fun (j:Nat) (a:Nat->Nat) (kf:Nat->Nat) (pf:Nat->Int)=>[(3,.pointer (some ⟨b3,0,none⟩)),(12,.pointer (some ⟨a8,0,none⟩)),(13,.pointer (some ⟨a1,0,none⟩)),(16,.pointer (some ⟨a4,0,none⟩)),(17,.slice B i i),(96,.int .i64 (i:Int)),(97,.int .i64 (j:Int))])
  (λj a kf pf aa=>j<=i/\Ext w' aa/\w7.heap.size<=aa.heap.size/\bv.heap.size<=aa.heap.size/\Blk aa b3 149 (grC A c i es)/\Blk aa a8 198 (Vb o)/\Blk aa a1 198 (Vb q)/\Blk aa a4 199 (Xc a)/\aa.ownsRow bv.heap.size 187 3 (.slice B i i) i (Qh i (Uj ord kf pf j)) /\
   (∀ u,u<32->a u<4294967296)/\(∀ u,u<i->∀ x,(a u).testBit x=Ze (nb0 i es) (ord.take j) u x)/\∀ v,v<i->plc ord v<j->BagAt i es ord v (kf v) (pf v)) (λj _ _ _=>i-j) 0 a0 (λ_=>0) (λ_=>0) sB
  ⟨Nat.zero_le _,bw.trans ad,ad.size,bg.size,bc,bs,bq,bp,au,λu hu=>(e4 u hu).1,λu hu x=>?_,λv _ hv=>om⟩ ?_
 .rw [(e4 u om).2];rfl
 clear bc bs bq bp au bd b8 U a9 e9 b9 af;rintro j a kf pf aa ⟨hj,b4,el,ec,c9,br,ax,bo,ar,d0,c0,e1⟩;refine ρ ?_;refine ci (λZ=>?_) (λZ=>?_)
 .have lj:j<i:=by have:=oT Z;omega
  clear Z;have co:j<32:=om
  obtain ⟨v,ev⟩:∃ v,v=ord.getD j 0:=⟨_,rfl⟩;have b5:v<i:=by rw [ev];exact cv j lj
  have b6:v<32:=om
  have d3:v∈ord:=b7.2 b5;have dt:pre ord v=ord.take j:=by rw [ev];exact Jvr a3 (c4.symm ▸ lj)
  have ey:plc ord v=j:=by rw [ev];exact Io a3 (c4.symm ▸ lj)
  obtain ⟨G,bt⟩:∃ G,G=Ze (nb0 i es) (ord.take j):=⟨_,rfl⟩;have am:∀ x,Zb (nb0 i es) ord v x=G v x:=λx=>by rw [Zb,dt,bt]
  have dx:NbInv (ord.take j) G:=by rw [bt];exact (Jsj e0).at (a3.sublist (List.take_sublist _ _))
  have d4:v ∉ ord.take j:=by rw [<-dt];exact (Jvc d3).choose_spec.2
  have fa:∀ x,G v x=true->x≠v:=λx O=>(dx.gone v x d4 O).2;have dw:∀ x,G v x=true->x<i:=λx O=>by rw [<-am]at O;exact Jyg (λu x h=>(Jxb e0 h).2.1) O
  rw [<-bt]at c0;have c5:=d0 v b6;refine ρ ?_;refine ixb j co ?_;refine ρ ?_;refine ld (br.atc (Ul co)) ?_;rw [ho j lj,<-ev];refine ρ ?_;refine ixb v b6 ?_;refine ρ ?_;refine ld (bo.atc (Gx b6)) ?_;refine ρ ?_;refine bld (Qtw _ _ _) ?_;refine ρ ?_;refine alc zBag ?_;intro f3 ay dk e2 ca;refine ρ ?_;refine stW ca ?_;intro de ca ez dj;have C:Ext aa de:=dj aa dk e2;have da:=c9.ext C;refine ρ ?_;refine ld (da.at (i:=0) rfl) ?_;refine ρ ?_;refine Xt (fun (u:Nat) (a':Nat->Nat) (par:Int)=>[(3,.pointer (some ⟨b3,0,none⟩)),(12,.pointer (some ⟨a8,0,none⟩)),(13,.pointer (some ⟨a1,0,none⟩)),(16,.pointer (some ⟨a4,0,none⟩)),(17,.slice B i i),(96,.int .i64 (i:Int)),(97,.int .i64 (j:Int)),(19,.int .i64 (v:Int)),(20,.pointer (some ⟨ay,0,none⟩)),(109,.int .i64 (i:Int)),(110,.int .i64 (u:Int))])
   (λu a' par a5=>u<=i/\GrN (λk=>k=a4∨k=ay) de a5/\Blk a5 a4 199 (Xc a')/\Blk a5 ay 187 [.int .i64 (v:Int),.int .u32 (a v:Int),.int .i64 par] /\
    (∀ x,x<32->a' x<4294967296)/\(∀ x,x<i->∀ y,(a' x).testBit y=if x<u then Yr v G x y else G x y) /\
    ((par = -1/\∀ x,x<u->G v x=false)∨∃ p:Nat,par=p/\p<u/\G v p=true/\∀ x,x<u->G v x=true->plc ord p<=plc ord x)) (λu _ _=>i-u) 0 a (-1) sB
   ⟨Nat.zero_le _,GrN.refl _ _,bo.ext C,ca,d0,λx O y=>by rw [if_neg om];exact c0 x O y,.inl ⟨rfl,λx O=>om⟩⟩ ?_
  rintro u a' par a5 ⟨hu,a6,aw,a7,ap,bj,aj⟩;refine ρ ?_;refine ci (λZ=>?_) (λZ=>?_)
  .have lu:u<i:=by have:=oT Z;omega
   clear Z;have a2:u<32:=om
   refine ρ ?_;refine ld (a7.at (i:=1) rfl) ?_;refine ρ ?_;refine Km (s:=a v) (v:=u) om ?_;refine ρ ?_;refine ci (λZ=>?_) (λZ=>?_)
   .rw [Qzl c5,c0 v b5]at Z;have bz:G v u=false:=by simpa using Z
    refine ρ ?_;refine Xj (u+1) a' par sO ⟨om,a6,aw,a7,ap,λx O y=>?_,?_⟩ om
    .rw [bj x O];by_cases e:x=u
     .subst e;rw [if_neg om,if_pos om,Yr,if_neg (by rw [bz];simp)]
     .by_cases J:x<u
      .rw [if_pos J,if_pos om]
      .rw [if_neg J,if_neg om]
    .rcases aj with ⟨J,h2⟩|⟨p,J,h2,h3,h4⟩
     .refine .inl ⟨J,λx O=>?_⟩;by_cases e:x=u
      .rw [e];exact bz
      .exact h2 x om
     .refine .inr ⟨p,J,om,h3,λx O ao=>?_⟩;by_cases e:x=u
      .rw [e,bz]at ao;cases ao
      .exact h4 x om ao
   .rw [Qzl c5,c0 v b5]at Z;have bz:G v u=true:=by simpa using Z
    have cq:Ext w' a5:=a6.old (b4.trans C) (λk hk=>by
     rcases hk with rfl|rfl
     .have:=bw.size;omega
     .have:=b4.size;omega)
    have cn:Blk a5 a1 198 (Vb q):=Jc (ax.ext C) a6 (by
     rintro (h|h)
     .omega
     .have:=ax.lt;omega)
    refine ρ ?_;refine Xa (fun (t:Bool)=>[(3,.pointer (some ⟨b3,0,none⟩)),(12,.pointer (some ⟨a8,0,none⟩)),(13,.pointer (some ⟨a1,0,none⟩)),(16,.pointer (some ⟨a4,0,none⟩)),(17,.slice B i i),(96,.int .i64 (i:Int)),(97,.int .i64 (j:Int)),(19,.int .i64 (v:Int)),(20,.pointer (some ⟨ay,0,none⟩)),(109,.int .i64 (i:Int)),(110,.int .i64 (u:Int)),(21,.int .i64 (u:Int)),(131,.bool t)])
     (λt bu=>Ext a5 bu/\(t=true->par = -1∨∃ p:Nat,par=p/\plc ord u<plc ord p)/\(t=false->∃ p:Nat,par=p/\plc ord p<=plc ord u)) ?_ ?_
    .have b1:Ext a5 a5.drew:=(Ext.refl a5).drew;have ag:=a7.ext b1;have cb:=cn.ext b1;refine dr [(0,0),(0,1),(0,2),(0,3),(0,4),(0,5),(0,6),(0,7),(0,8),(0,9),(0,10),(0,11),(0,12)] kr ?_;refine ρd ?_;refine dld (ag.at (i:=2) rfl) ?_;refine ρd ?_;refine dki 122 (λJ=>?_) (λJ=>?_)
     .have h2:par<0:=oT J;have h3:par = -1:=by
       rcases aj with ⟨h4,_⟩|⟨p,h4,_⟩
       .exact h4
       .omega
      refine ρd ?_;refine ρ ?_;exact Jb true sB ⟨b1,λ_=>.inl h3,λe=>by cases e⟩
     .have h2:¬ par<0:=oF J;obtain ⟨p,h4,h5,h6,h7⟩:∃ p:Nat,par=p/\p<u/\G v p=true/\∀ x,x<u->G v x=true->plc ord p<=plc ord x:=by
       rcases aj with ⟨h4,_⟩|h4
       .omega
       .exact h4
      subst h4;refine ρd ?_;refine dixb u a2 ?_;refine ρd ?_;refine dld (cb.atc (Ul a2)) ?_;refine ρd ?_;refine dld (ag.at (i:=2) rfl) ?_;refine ρd ?_;refine dixb p (show p<32 by omega) ?_;refine ρd ?_;refine dld (cb.atc (Ul (show p<32 by omega))) ?_;rw [dq u lu,dq p om];refine ρd ?_;refine ρ ?_;refine Jb _ sB ⟨b1,λe=>.inr ⟨p,rfl,?_⟩,λe=>⟨p,rfl,?_⟩⟩
      .have:=oT e;omega
      .have:=oF e;omega
    rintro t bu ⟨b2,ek,ej⟩;have ac:=a7.ext b2;refine ρ ?_;refine Xa (fun (ai:Int)=>[(3,.pointer (some ⟨b3,0,none⟩)),(12,.pointer (some ⟨a8,0,none⟩)),(13,.pointer (some ⟨a1,0,none⟩)),(16,.pointer (some ⟨a4,0,none⟩)),(17,.slice B i i),(96,.int .i64 (i:Int)),(97,.int .i64 (j:Int)),(19,.int .i64 (v:Int)),(20,.pointer (some ⟨ay,0,none⟩)),(109,.int .i64 (i:Int)),(110,.int .i64 (u:Int)),(21,.int .i64 (u:Int))])
     (λai an=>GrN (λk=>k=ay) bu an/\Blk an ay 187 [.int .i64 (v:Int),.int .u32 (a v:Int),.int .i64 ai]/\((ai = -1/\∀ x,x<u+1->G v x=false)∨∃ p:Nat,ai=p/\p<u+1/\G v p=true/\∀ x,x<u+1->G v x=true->plc ord p<=plc ord x)) ?_ ?_
    .refine ci (λht=>?_) (λht=>?_)
     .refine ρ ?_;refine sto (p:=⟨ay,2,none⟩) (ac.cell 2) (ac.frozen _) ?_;refine ρ ?_;refine Jb (u:Int) sB ⟨GrN.set _ rfl,ac.set 2 _,.inr ⟨u,rfl,Nat.lt_succ_self u,bz,λx O ao=>?_⟩⟩;by_cases e:x=u
      .rw [e];exact Nat.le_refl _
      .rcases aj with ⟨_,h2⟩|⟨p,J,h2,h3,h4⟩
       .rw [h2 x om]at ao;cases ao
       .have h5:=h4 x om ao;rcases ek ht with h6|⟨p',h6,h7⟩
        .omega
        .have:p=p':=om
         subst this;omega
     .obtain ⟨p',h6,h7⟩:=ej ht;refine ρ ?_;refine Jb par sB ⟨GrN.refl _ _,ac,.inr ?_⟩;rcases aj with ⟨J,h2⟩|⟨p,J,h2,h3,h4⟩
      .omega
      .have:p=p':=om
       subst this;refine ⟨p,J,om,h3,λx O ao=>?_⟩;by_cases e:x=u
       .rw [e];exact h7
       .exact h4 x om ao
    rintro ai an ⟨cw,ck,d7⟩;have bi:a4≠ay:=om
    have cm:Blk an a4 199 (Xc a'):=Jc (aw.ext b2) cw bi;have b1:Ext an an.drew:=(Ext.refl an).drew;have av:=cm.ext b1;have ag:=ck.ext b1;have e3:=ap u a2;have ea:=Gt a2;have ch:=Gt b6;refine ρ ?_;refine drN (λ_=>False) 15 [(0,0),(0,1),(0,2),(0,3),(0,4),(0,5),(0,6),(0,7),(0,8),(0,9),(0,10),(0,11),(0,12),(0,13),(2,14)] kr ?_;refine ρn ?_;refine nixb u a2 ?_;refine ρn ?_;refine nld (Jm (av.atc (Gx a2)) (λe=>e)) ?_;refine ρn ?_;refine nld (Jm (ag.at (i:=1) rfl) (λe=>e)) ?_;refine ρn ?_;refine Jdn a2 ?_;refine ρn ?_;refine Jdn b6 ?_;refine ρn ?_;refine nixb u a2 ?_;refine ρn ?_;refine Xd ?_;have c3:=Jvt e3 c5;have cr:=Jvt ea ch;obtain ⟨nw,dd⟩:∃ nw,nw=Gg (a' u ||| a v) (2^u ||| 2^v):=⟨_,rfl⟩;have eo:nw<4294967296:=by rw [dd];exact Qkh c3
    have eb:bits .andNot .u32 (bits .or .u32 (a' u:Int) (a v:Int)) (bits .or .u32 ((2^u:Nat):Int) ((2^v:Nat):Int))=(nw:Int):=by
     rw [Jjq e3 c5,Jjq ea ch,Jhc c3 cr,dd]
    refine sto (p:=⟨a4,u,none⟩) (av.cell u |>.trans (Gx a2)) (av.frozen _) ?_;rw [eb];have bn:=av.set u (.int .u32 (nw:Int));rw [Jcp a' a2]at bn;have dz:GrN (λk=>k=a4) an.drew (an.drew.setCell ⟨a4,u,none⟩ (.int .u32 (nw:Int))):=GrN.set _ rfl;refine ω5 ?_;refine Gw ?_;refine ρn ?_;refine ρ ?_;refine Xj (u+1) (upd a' u nw) ai sO ⟨om,?_,bn,ag.far (λe=>bi e.symm) _,λx O=>?_,λx O y=>?_,d7⟩ om
    .exact ((a6.trans (GrN.ext b2)).trans (cw.mono λk _ hk=>.inr hk)).trans ((GrN.ext b1).trans (dz.mono λk _ hk=>.inl hk))
    .by_cases e:x=u
     .rw [e,Jg];exact eo
     .rw [Jy _ _ e];exact ap x O
    .by_cases e:x=u
     .subst e;rw [Jg,if_pos (Nat.lt_succ_self x),dd,Jhm c3 cr,Nat.testBit_or,Nat.testBit_or,Jwz,Jwz,bj x O,if_neg (Nat.lt_irrefl x),c0 v b5,Yr,if_pos bz];rw [Qqc x y,Qqc v y];cases G x y<;>cases G v y<;>cases (y != x)<;>cases (y != v)<;>rfl
     .rw [Jy _ _ e,bj x O];by_cases J:x<u
      .rw [if_pos J,if_pos om]
      .rw [if_neg J,if_neg om]
  .have ei:u=i:=by have:=oF Z;omega
   subst ei;clear Z;have cq:Ext w' a5:=a6.old (b4.trans C) (λk hk=>by
    rcases hk with rfl|rfl
    .have:=bw.size;omega
    .have:=b4.size;omega)
   have ba:∀ {g t:Nat} {cs:List Value},Blk aa g t cs->g≠a4->Blk a5 g t cs:=λhB J=>Jc (hB.ext C) a6 (by
    rintro (h|h)
    .exact J h
    .have:=hB.lt;omega)
   have aq:a5.ownsRow bv.heap.size 187 3 (.slice B u u) u (Qh u (Uj ord kf pf j)):=Jr (Jk ar C) a6 (λg eg hk=>by
    obtain ⟨_,_,_,_,c6⟩:=Jv ar;have h5:=c6 g eg;rcases hk with rfl|rfl<;>omega)
   refine ρ ?_;refine ldW a7 ?_;refine ρ ?_;refine ixq 3 v (Rd.own aq) b5 ?_;refine ρ ?_;refine stoE (cs:=[.int .i64 (v:Int),.int .u32 (a v:Int),.int .i64 par]) aq b5 ?_ Jzw;intro bu bb bh;rw [Qnf (λv _=>Xjp ord kf pf j v) b5 rfl]at bb;have eg:Qh u (upd (Uj ord kf pf j) v [.int .i64 (v:Int),.int .u32 (a v:Int),.int .i64 par])=Qh u (Uj ord (upd kf v (a v)) (upd pf v par) (j+1)):=by
    refine Jyp λx O=>?_;by_cases e:x=v
    .subst e;rw [Jg,Uj,if_pos om];simp only [Qf,Jg]
    .rw [Jy _ _ e];have dv:plc ord x≠j:=λe'=>by
      have J:=(Ue a3 (b7.2 O)).2;rw [e',<-ev]at J;exact e J.symm
     unfold Uj;by_cases J:plc ord x<j
     .rw [if_pos J,if_pos om];simp only [Qf,Jy _ _ e]
     .rw [if_neg J,if_neg om]
   rw [eg]at bb;have ab:∀ {g t:Nat} {cs:List Value},Blk a5 g t cs->g<bv.heap.size->Blk bu g t cs:=λhB J=>hB.grown bh (λe=>by
    obtain ⟨_,_,_,_,c6⟩:=Jv aq;have h5:=c6 _ e.symm;omega)
   have b2:Ext w' bu:=Qb cq bh (λg eg=>by
    obtain ⟨_,_,_,_,c6⟩:=Jv aq;have h5:=c6 g eg;have:=bw.size;have:=ae.size;omega)
   have f2:=ae.size;refine ρ ?_;refine Gr (j+1) a' (upd kf v (a v)) (upd pf v par) sO ⟨om,b2,by have:=C.size;have:=a6.size;have:=bh.size;omega,by have:=C.size;have:=a6.size;have:=bh.size;omega,ab (ba c9 om) om,ab (ba br om) om,ab (ba ax om) om,ab aw df,bb,ap,λx O y=>?_,λx O er=>?_⟩ om
   .rw [bj x O,if_pos O,Qy 0 (c4.symm ▸ lj),<-ev,Jdq,<-bt];rfl
   .by_cases e:x=v
    .subst e;rw [Jg,Jg];refine ⟨c5,λy=>by rw [c0 x b5,am],?_⟩;rcases aj with ⟨J,h2⟩|⟨p,J,h2,h3,h4⟩
     .refine .inl ⟨J,λy=>?_⟩;rw [am];cases hb:G x y with
      | false=>rfl
      | true=>exact absurd (h2 y (dw y hb)) (by rw [hb];simp)
     .exact .inr ⟨p,J,by rw [am];exact h3,λy hy=>h4 y (dw y (by rw [<-am];exact hy)) (by rw [<-am];exact hy)⟩
    .rw [Jy _ _ e,Jy _ _ e];refine e1 x O ?_;have dv:plc ord x≠j:=λe'=>by
      have J:=(Ue a3 (b7.2 O)).2;rw [e',<-ev]at J;exact e J.symm
     omega
 .have eu:j=i:=by have:=oF Z;omega
  subst eu;clear Z;refine ρ ?_;refine Yk ⟨bf.trans b4,B,kf,pf,rfl,?_,λv hv=>?_⟩
  .have e:Qh j (Uj ord kf pf j)=Qh j (Qf kf pf):=Jyp λv hv=>by
    have:=(Ue a3 (b7.2 hv)).1;rw [Uj,if_pos om]
   rw [e]at ar;exact Jvs ar (by have:=c1.size;have:=ae.size;omega)
  .have:=e1 v hv (by have:=(Ue a3 (b7.2 hv)).1;omega);rw [<-ak];exact this
open Go.RowKit Pl Go.Wk
variable {ca cb n v:Nat}{pf:Nat->Int}
theorem Qnv{kf:Nat->Nat}(hv:v<32)(hk:kf v<4294967296)(w:World): Ret Tryz.prog 129 [.agg (Qf kf pf v).toArray] w λu w'=>u=.int .u32 ((kf v ||| 2^v:Nat):Int)/\Ext w w':=by
 refine Jz Tryz.func129 Tryz.ntmps129 rfl kr rfl ?_;refine ρ ?_;refine bx (cs:=Qf kf pf v) ?_;intro G b J U O;refine ρ ?_;refine ld (O.at (i:=0) rfl) ?_;refine ρ ?_;refine ld (O.at (i:=0) rfl) ?_;refine ρ ?_;refine cf ?_ ?_
 .exact dF om
 have o:Ext G G.drew:=(Ext.refl G).drew;have C:=O.ext o;refine ρ ?_;refine dr [(0,0),(0,1),(0,2),(0,3),(0,4),(0,5),(0,6)] kr ?_;refine ρd ?_;refine dld (C.at (i:=1) rfl) ?_;refine ρd ?_;refine dld (C.at (i:=0) rfl) ?_;refine ρd ?_;refine dsl32 hv ?_;refine ρd ?_;refine ρ ?_;refine Jj ⟨?_,J.trans o⟩;rw [Jjq hk (Gt hv)]
def Jbj(n m:Nat)(vars:Nat->List Nat)(rs:Nat->List Row)(s:Nat)(l:List Row): Prop:=Lt [] l/\(∀ x,x∈l↔∃ z:Row,z.length=n/\x=pmR (bk s 32) z/\Kc m vars rs s z)/\l.length<=65536
def Vf(s:Nat)(l:List Row): Atm:=⟨nz (bk s 32),(bk s 32).length,l⟩
theorem Xjl{w:World}{ts:List TA}{Aa B:Option Addr}{vars:Nat->List Nat}{rs:Nat->List Row}{kf:Nat->Nat}(hn32:n<=32)(hok:∀ v,v<n->MOk n ts vars rs (kf v ||| 2^v))(hR:Rd w 3 Aa ts.length (atC ts))(hle:ts.length<=ca)(hat:∀ p∈ts,AtV w p.1 p.2)(hB:Rd w 3 B n (Qh n (Qf kf pf)))(hk:∀ v,v<n->kf v<4294967296)(hcap:∀ v,v<n->∀ l:List Row,Lt [] l->(∀ x∈l,∃ z:Row,z.length=n/\x=pmR (bk (kf v ||| 2^v) 32) z/\Kc ts.length vars rs (kf v ||| 2^v) z)->l.length<=65536):
  Ret Tryz.prog 81 [.int .i64 (n:Int),.slice B n cb,.slice Aa ts.length ca] w λu w'=>Ext w w'/\∃ (va:Value) (st:Int) (R:Nat->List Row),u=.tuple #[va,.int .i64 st,.int .i64 0] /\
   Off (λk=>k<w.heap.size) w' (λx=>GV 3 AtG x va ((List.range n).map λv=>Vf (kf v ||| 2^v) (R v)))/\∀ v,v<n->Jbj n ts.length vars rs (kf v ||| 2^v) (R v):=by
 refine Jz Tryz.func81 Tryz.ntmps81 rfl kr rfl ?_;refine ρ ?_;refine Jqc (fun (v:Nat) (va:Value) (st:Int) (R:Nat->List Row)=>[(0,.int .i64 (n:Int)),(2,.slice Aa ts.length ca),(9,va),(10,.int .i64 st),(16,.slice B n cb),(17,.int .i64 (n:Int)),(18,.int .i64 (v:Int))])
  (λv va st R w'=>v<=n/\Ext w w'/\OwnG 99 3 AtG w' w.heap.size va ((List.range v).map λu=>Vf (kf u ||| 2^u) (R u))/\∀ u,u<v->Jbj n ts.length vars rs (kf u ||| 2^u) (R u)) (λv _ _ _=>n-v) 0 (.slice none 0 0) 0 (λ_=>[]) sB
  ⟨Nat.zero_le _,Ext.refl _,OwnG.nil _ _,λu hu=>om⟩ ?_
 rintro v va st R w1 ⟨hv,J,a6,ae⟩;refine ρ ?_;refine ci (λhc=>?_) (λhc=>?_)
 .have lv:v<n:=by have:=oT hc;omega
  clear hc;have ag:=hB.ext J;have a5:∀ j u,(Qf kf pf v)[j]?=some u->w1.cell? ((adr B (v*3)).add j)=some u:=λj u hu=>by
   have hj:j<3:=by
    rcases Nat.lt_or_ge j 3 with h'|h'
    .exact h'
    .rw [List.getElem?_eq_none (by simp [Qf];omega)]at hu;cases hu
   rw [Xg];exact ag.cell ((Jjk (sz:=3) (λ_ _=>rfl) lv hj).trans hu)
  refine ρ ?_;refine ixq 3 v ag lv ?_;refine ρ ?_;refine lds (cs:=Qf kf pf v) a5 ?_;refine ρ ?_;refine alc zBag ?_;intro w2 bf av ad U;refine ρ ?_;refine stb (cs':=Qf kf pf v) U ?_ Jzw;intro w3 U bc au;have a9:Ext w1 w3:=au w1 av ad;refine ρ ?_;refine lds (cs:=Qf kf pf v) (λj u hu=>U.at hu) ?_;refine ρ ?_;refine cl (Qnv om (hk v lv) w3) ?_;rintro u w4 ⟨rfl,ar⟩;have G:=a9.trans ar;have o:=J.trans G;refine ρ ?_;refine cl (Qhj (hok v lv) (hR.ext o) hle (λp hp=>(hat p hp).ext o) (hcap v lv)) ?_;rintro u w5 ⟨aq,⟨p1,p2,p3⟩,am,l,rfl,a2,ax,ab,ay⟩;have b5:=a2.here;obtain ⟨⟨PA,pc,aj,b9,b7,b6⟩,ai,Z⟩:=id b5;simp only at aj ai;obtain ⟨a7,PG,a4,_,ah,_⟩:=id Z;simp only at ah;subst aj;subst ai;subst ah;refine ρ ?_;refine alc Yj ?_;intro w6 be ap ac O;refine ρ ?_;refine stb (cs':=[.slice PA (nz (bk (kf v ||| 2^v) 32)).length pc,.int .i64 ((bk (kf v ||| 2^v) 32).length:Int),.slice PG a7.length a4]) O ?_ (Ge rfl)
  intro w7 O bb ao;have a1:Ext w5 w7:=ao w5 ap ac;refine ρ ?_;refine ldW O ?_;refine ρ ?_;refine bsl (Jbb _ _ _ PA PG _ pc _ a4 _ rfl rfl rfl) ?_;intro w8 b8 a8 bd b4;have C:=((G.trans aq).trans a1).trans a8;obtain ⟨_,_,_,_,af⟩:=a6.form;have hΦ:Off (Qs w.heap.size va) w8 (λu=>AtG u [.slice PA (nz (bk (kf v ||| 2^v) 32)).length pc,.int .i64 ((bk (kf v ||| 2^v) 32).length:Int),.slice PG a7.length a4] (Vf (kf v ||| 2^v) l)):=by
   refine ((a2.imp λu h=>⟨_,rfl,h⟩).mono λk _ b1=>?_).ext (a1.trans a8);rcases b1 with h'|h'
   .exact nM h' o.size
   .exact nM (af k h').2 G.size
  refine ρ ?_;refine apG EA (Φ:=AtG) (a6.ext C) b4 rfl (Ge rfl) hΦ (by simp;omega) om (J.trans C).size ?_;intro ak w9 b3 b2 ba;have an:Ext w w9:=Qb (J.trans C) b2 (λg eg=>(af g eg).1);obtain ⟨a3,aa⟩:∃ a3:Int,a3=IntKind.i64.wrap (st+am):=⟨_,rfl⟩;refine ρ ?_;rw [<-aa];refine ρ ?_;refine Gr (v+1) ak a3 (upd R v l) sO ⟨om,an,?_,λu hu=>?_⟩ om
  .rw [List.range_succ,List.map_append,List.map_singleton,Jg];have e:(List.range v).map (λu=>Vf (kf u ||| 2^u) (upd R v l u))=(List.range v).map (λu=>Vf (kf u ||| 2^u) (R u)):=by
    refine List.map_congr_left λj hj=>?_;have:=List.mem_range.1 hj;rw [Jy _ _ om]
   rw [e];exact b3
  .by_cases e:u=v
   .subst e;rw [Jg];exact ⟨ax,ab,ay⟩
   .rw [Jy _ _ e];exact ae u om
 .have aw:v=n:=by have:=oF hc;omega
  subst aw;clear hc;refine ρ ?_;exact Um ⟨J,va,st,R,rfl,a6.off (by simp;omega),ae⟩
end Go.Proofs.YtebcagekopgdhaaGreatDoor
namespace Go.Wk
open Go.Lib
variable {cs xs:List Value}{d e g m n t ty:Nat}{w w':World}
theorem aps{P:Program}{tt:TT}[h:Tab P tt]{al:AL}{Q:Exit->Act->World->Prop}{ops:Array Oper}{rest:List Oper}{pos:String}{aft:Array Edge}{u base:Nat}{ku:TK}{x y:Operand}{v:Value}{s:ByteArray}(hE:ElT P t e 1 1 (.int .u8 0))(ha:w.ownsRow base e 1 v m xs)(hby:m+s.size<=140737488355328)(hbase:base<=w.heap.size)(kk:∀ v' w',w'.ownsRow base e 1 v' (m+s.size) (xs++strCells s)->w.grownBy w' v.ownBlock->WL P n ops Q rest ((d,v')::al) w')(hu:tk tt u=some ku:=by rfl)(hku:ku.desc=.string:=by rfl)(hx:ev al x=some v:=by rfl)(hy:ev al y=some (.string s):=by rfl)(hd:Nat.blt d n=true:=by rfl):
  WL P n ops Q (⟨some d,.call { callee:=.builtin .append,args:=#[x,y],argTypes:=#[t,u] },ty,pos,aft,none⟩::rest) al w:=by
 obtain ⟨i,hi,Z,G,J⟩:=hE.info;obtain ⟨v',w',o,U,O,k3⟩:=run_append_own_string w base t u ty e i hE.sl (Vm h.ok hu hku rfl) hi Z G J v m xs ha s (by unfold maxLen;omega) hby hbase;refine wop hd (λa C=>?_) (kk v' w' U O);simp [execOp,resolve,invoke,builtin,C.ev hx,C.ev hy,o]
theorem _root_.Go.Wk.Blk.others(h:Blk w g t cs)(ho:OthersKept e none w w')(hne:Nat.beq e t=false): Blk w' g t cs :=
 ho g _ h (by simp) (λc u o=>by injection o with _ h2 _;subst h2;simp at hne)
end Go.Wk
namespace Go.Proofs.YtebcagekopgdhaaGreatDoor
open Go.RowKit Pl Go.Wk
attribute [local irreducible] WC WL QX WD WDB WP WN WG
variable {B B0 c i:Nat}{r:Row}{sv v:Value}{w w':World}
def Kt(v:V): List UInt8:=Lib.itoa v.kind++[44]++(Lib.itoa v.num++[44])++(Lib.itoa (v.str.size:Int)++[44])++v.bytes
def idn(r:Row): List UInt8:=r.flatMap Kt
structure TB(B0:Nat)(w:World): Prop where
 le:B0<=w.heap.size
 tab:Lib.TabBelow Tryz.prog B0 w "internal/strconv.uint64pow10" .u64 Lib.pow10Tab
theorem TB.below(h:TB B0 w)(hb:Below B w w')(hle:B0<=B): TB B0 w':=⟨nL h.le hb.size,h.tab.on (hb.mono hle)⟩
theorem TB.ext(h:TB B0 w)(hx:Ext w w'): TB B0 w':=h.below hx h.le
theorem EU8: ElT Tryz.prog 248 5 1 1 (.int .u8 0):=⟨Tryz.underlying248,info_parts kr,rfl,by decide⟩
theorem Jhl{l:List UInt8}{i:Int}(hT:TB B0 w)(hB0:B0<=B)(hBw:B<=w.heap.size)(h0:-9223372036854775808<=i)(h1:i<=9223372036854775807)(hlim:l.length+21<=140737488355328)(ho:w.ownsRow B 5 1 sv l.length (Bc l)): Ret Tryz.prog 167 [sv,.int .i64 i,.int .i64 10] w λu w'=>w'.ownsRow B 5 1 u (l++Lib.itoa i).length (Bc (l++Lib.itoa i))/\Below B w w'/\Lib.OthersKept 5 none w w':=by
 refine ⟨⟨_,_,Tryz.func167,rfl,kr⟩,?_⟩;refine (Tryz.strconv_AppendInt_10 B l.length i h0 h1 sv (Bc l) w ho hBw hlim λw' O=>hT.tab w' (O.mono hB0)).mono ?_;rintro e w' ⟨o,rfl,J,G,C⟩;refine ⟨o,rfl,?_,G,C⟩;have U:Bc (l++Lib.itoa i)=Bc l++Lib.byteCells (Lib.itoa i):=by simp [Bc,Lib.byteCells]
 rw [U,List.length_append];exact J
def Ve(v:V): Prop:=(-9223372036854775808<=v.kind/\v.kind<=9223372036854775807)/\(-9223372036854775808<=v.num/\v.num<=9223372036854775807)
theorem Jgz(z:Int)(w:World): (Instr.buildSlice 248 1 #[(0,.int .u8 z)]).run Tryz.prog w=.ok (.slice (some ⟨w.heap.size,0,none⟩) 1 1) (w.alloc (.cells [.int .u8 z].toArray 5)):=kr
theorem Jtz(h:i<r.length): idn (r.take (i+1))=idn (r.take i)++Kt (r.getD i V0):=by
 unfold idn;rw [Qy V0 h,List.flatMap_append];simp only [List.flatMap_cons,List.flatMap_nil,List.append_nil]
theorem Qmq(h:i<r.length): (idn (r.take i)).length+(Kt (r.getD i V0)).length<=(idn r).length:=by
 have e:idn r=idn (r.take (i+1))++idn (r.drop (i+1)):=by unfold idn;rw [<-List.flatMap_append,List.take_append_drop]
 rw [e,Jtz h,List.length_append,List.length_append];omega
theorem Bc_app(a b:List UInt8): Bc (a++b)=Bc a++Bc b:=by simp [Bc]
theorem Bc_one(l:List UInt8): ∀ u∈Bc l,u.oneCell'=true:=λu o=>by
 obtain ⟨c,_,rfl⟩:=List.mem_map.1 o;rfl
theorem Jhk(l:List UInt8)(c:UInt8): l.length+1=(l++[c]).length:=by simp
theorem Ga{base e sz n:Nat}{cs:List Value}(h:w.ownsRow base e sz v n cs): ∀ k,v.ownBlock=some k->base<=k:=λk o=>by
 obtain ⟨A,c,rfl,_,u⟩:=Jv h;exact (u k o).1
theorem Jxl{A:Option Addr}(hT:TB B0 w)(hR:RdR w A r)(hfit:∀ v∈r,Ve v)(hlim:(idn r).length+64<=140737488355328)(hr:r.length<=1000000):
  Ret Tryz.prog 134 [.slice A r.length c] w λu w'=>u=.string (str (idn r))/\Ext w w':=by
 refine Jz Tryz.func134 Tryz.ntmps134 rfl kr rfl ?_;refine ρ ?_;refine Ja (fun (i:Nat) (vn:Value)=>[(3,vn),(6,.slice A r.length c),(7,.int .i64 (r.length:Int)),(8,.int .i64 (i:Int))])
  (λi vn w'=>i<=r.length/\Ext w w'/\w'.ownsRow w.heap.size 5 1 vn (idn (r.take i)).length (Bc (idn (r.take i)))) (λi _=>r.length-i) 0 (.slice none 0 0) sB
  ⟨Nat.zero_le _,Ext.refl _,Xo _ _ _ _⟩ ?_
 rintro i vn w1 ⟨hi,a5,hn⟩;refine ρ ?_;refine ci (λh=>?_) (λh=>?_)
 .have li:i<r.length:=by have:=oT h;omega
  clear h;have ag:RdR w1 A r:=Rd.ext hR a5;have bq:=Qmq li;have hf:=hfit _ (getD_mem' V0 r li);refine ρ ?_;refine ixq 3 i ag li ?_;refine ρ ?_;refine lds (cs:=(r.getD i V0).cells) (λj u hu=>RdR.cell ag li hu) ?_;refine ρ ?_;refine alc (cs:=V0.cells) Uu ?_;intro w2 b b9 hb ay;refine ρ ?_;refine stb (cs':=(r.getD i V0).cells) ay ?_ (V.one _);intro w3 am bs a8;have an:Ext w1 w3:=a8 w1 b9 hb;have ap:=Jk hn an;have U:=a5.trans an;have bu:w.heap.size<=b:=nL a5.size hb;have ba:=Jtz li;generalize r.getD i V0=v at *
  generalize idn (r.take i)=l0 at *
  have bb:=Jzl v;have br:(Kt v).length=(Lib.itoa v.kind).length+1+((Lib.itoa v.num).length+1)+((Lib.itoa (v.str.size:Int)).length+1)+v.bytes.length:=by simp only [Kt,List.length_append,List.length_cons,List.length_nil]
  clear hn ay a8 ag;refine ρ ?_;refine ld (am.at (i:=0) rfl) ?_;refine ρ ?_;refine cl (Jhl (B:=w.heap.size) (l:=l0) (i:=v.kind) (hT.ext U) hT.le U.size hf.1.1 hf.1.2 (by first|omega|simp only [List.length_append,List.length_cons,List.length_nil];omega) ap) ?_;rintro u4 w4 ⟨ae,ax,bd⟩;have a7:Ext w w4:=Below.trans U ax;have ak:=am.others bd rfl;clear ap am;refine ρ ?_;refine bsl (Jgz _) ?_;intro w5 b5 G bw bg;refine ρ ?_;refine apb (m':=1) (news:=Bc [44]) EU8 (Jk ae G) (bg.rd (n:=1) rfl) (Bc_one _) (by unfold maxLen;first|omega|simp only [List.length_append];omega) (by first|omega|simp only [List.length_append];omega) (a7.trans G).size ?_;intro v6 w6 ad au bp;rw [<-Bc_app,Jhk _ 44]at ad;have O:Ext w w6:=Qb (a7.trans G) au (Ga (Jk ae G));have aj:=(ak.ext G).grown au ((ak.ext G).ne_own (Jk ae G) rfl);clear ak;refine ρ ?_;refine ld (aj.at (i:=1) rfl) ?_
  refine ρ ?_;refine cl (Jhl (B:=w.heap.size) (l:=l0++Lib.itoa v.kind++[44]) (i:=v.num) (hT.ext O) hT.le O.size hf.2.1 hf.2.2 (by first|omega|simp only [List.length_append,List.length_cons,List.length_nil];omega) ad) ?_;rintro u7 w7 ⟨ac,aw,bc⟩;have a6:Ext w w7:=Below.trans O aw;have ai:=aj.others bc rfl;clear ad aj;refine ρ ?_;refine bsl (Jgz _) ?_;intro w8 b8 C bv bf;refine ρ ?_;refine apb (m':=1) (news:=Bc [44]) EU8 (Jk ac C) (bf.rd (n:=1) rfl) (Bc_one _) (by unfold maxLen;first|omega|simp only [List.length_append,List.length_cons,List.length_nil];omega) (by first|omega|simp only [List.length_append,List.length_cons,List.length_nil];omega) (a6.trans C).size ?_;intro v9 w9 ab ar bo;rw [<-Bc_app,Jhk _ 44]at ab;have J:Ext w w9:=Qb (a6.trans C) ar (Ga (Jk ac C));have ah:=(ai.ext C).grown ar ((ai.ext C).ne_own (Jk ac C) rfl);clear ai;refine ρ ?_;refine ld (ah.at (i:=2) rfl) ?_
  refine ρ ?_;refine cl (Jhl (B:=w.heap.size) (l:=l0++Lib.itoa v.kind++[44]++Lib.itoa v.num++[44]) (i:=(v.str.size:Int)) (hT.ext J) hT.le J.size om om (by first|omega|simp only [List.length_append,List.length_cons,List.length_nil];omega) ab) ?_;rintro bn b6 ⟨a3,af,ao⟩;have a1:Ext w b6:=Below.trans J af;have a4:=ah.others ao rfl;clear ab ah;refine ρ ?_;refine bsl (Jgz _) ?_;intro bj bz o bi b2;refine ρ ?_;refine apb (m':=1) (news:=Bc [44]) EU8 (Jk a3 o) (b2.rd (n:=1) rfl) (Bc_one _) (by unfold maxLen;first|omega|simp only [List.length_append,List.length_cons,List.length_nil];omega) (by first|omega|simp only [List.length_append,List.length_cons,List.length_nil];omega) (a1.trans o).size ?_;intro bm b4 a2 a9 bh;rw [<-Bc_app,Jhk _ 44]at a2;have Z:Ext w b4:=Qb (a1.trans o) a9 (Ga (Jk a3 o));have b1:=(a4.ext o).grown a9 ((a4.ext o).ne_own (Jk a3 o) rfl)
  clear a4;refine ρ ?_;refine ld (b1.at (i:=2) rfl) ?_;refine ρ ?_;refine aps (base:=w.heap.size) (s:=v.str) EU8 a2 (by first|omega|simp only [List.length_append,List.length_cons,List.length_nil];omega) Z.size ?_;intro b7 b3 aq av;have aa:Ext w b3:=Qb Z av (Ga a2);refine ρ ?_;refine Jl (i+1) b7 sO ⟨li,aa,?_⟩ om;rw [ba];have e1:l0++Kt v=l0++Lib.itoa v.kind++[44]++Lib.itoa v.num++[44]++Lib.itoa (v.str.size:Int)++[44]++v.bytes:=by simp only [Kt,List.append_assoc]
  rw [e1,Bc_app,List.length_append,<-bb];exact aq
 have be:i=r.length:=by have:=oF h;omega
 rw [be,List.take_length]at hn;obtain ⟨A3,c3,rfl,bt,_⟩:=Jv hn;refine ρ ?_;refine sb (Rd.own hn) ?_;refine ρ ?_;exact Jj ⟨rfl,a5⟩
end Go.Proofs.YtebcagekopgdhaaGreatDoor
namespace Go.Proofs.YtebcagekopgdhaaGreatDoor
open Go.RowKit Pl Go.Wk Go.Lib
def Jkv(l:List UInt8): Nat:=l.foldl (λa c=>10*a+(c.toNat-48)) 0
theorem Jyt{k:Nat}(h:k<10): (UInt8.ofNat (48+k)).toNat=48+k:=by
 rw [UInt8.toNat_ofNat'];omega
theorem Jyv(u:Nat): Jkv (decDigits u)=u:=by
 induction u using Nat.strongRecOn with
 | ind u ih=>
  rw [decDigits];split
  .rename_i h;simp only [Jkv,List.foldl_cons,List.foldl_nil,Jyt h];omega
  .rename_i h;have o:=ih (u / 10) om;unfold Jkv at o ⊢;rw [List.foldl_append,o];simp only [List.foldl_cons,List.foldl_nil,Jyt (show u % 10<10 by omega)];omega
theorem Jgk(u:Nat): ∀ c∈decDigits u,48<=c.toNat/\c.toNat<=57:=by
 induction u using Nat.strongRecOn with
 | ind u ih=>
  rw [decDigits];split
  .rename_i h;intro c o;rw [List.mem_singleton.1 o,Jyt h];omega
  .rename_i h;intro c o;rcases List.mem_append.1 o with o|o
   .exact ih (u / 10) om c o
   .rw [List.mem_singleton.1 o,Jyt (show u % 10<10 by omega)];omega
theorem Jxk(i:Int): ∀ c∈itoa i,c≠44:=by
 intro c o e;subst e;unfold itoa at o;split at o
 .rcases List.mem_cons.1 o with h|h
  .exact absurd h (by decide)
  .have:=Jgk _ _ h;exact absurd this.1 (by decide)
 .have:=Jgk _ _ o;exact absurd this.1 (by decide)
theorem Jfs{i j:Int}(h:itoa i=itoa j): i=j:=by
 have key:∀ (a:Nat) (l:List UInt8),decDigits a≠45::l:=λa l e=>by
  have:=Jgk a 45 (by rw [e];exact mC);exact absurd this.1 (by decide)
 unfold itoa at h;split at h<;>split at h
 .have:=congrArg Jkv (List.cons.inj h).2;rw [Jyv,Jyv]at this;omega
 .exact absurd h.symm (key _ _)
 .exact absurd h (key _ _)
 .have:=congrArg Jkv h;rw [Jyv,Jyv]at this;omega
theorem Jgn{a b x y:List UInt8}(ha:∀ c∈a,c≠44)(hb:∀ c∈b,c≠44)(h:a++44::x=b++44::y): a=b/\x=y:=by
 induction a generalizing b with
 | nil=>cases b with
  | nil=>simpa using h
  | cons c b=>simp only [List.nil_append,List.cons_append,List.cons.injEq]at h;exact absurd h.1.symm (hb c mC)
 | cons d a ih=>cases b with
  | nil=>simp only [List.nil_append,List.cons_append,List.cons.injEq]at h;exact absurd h.1 (ha d mC)
  | cons c b=>
   simp only [List.cons_append,List.cons.injEq]at h;obtain ⟨C,u⟩:=ih (λc o=>ha c (List.mem_cons_of_mem _ o)) (λc o=>hb c (List.mem_cons_of_mem _ o)) h.2;exact ⟨by rw [h.1,C],u⟩
theorem Jkk(v:V)(r:Row): idn (v::r)=itoa v.kind++44::(itoa v.num++44::(itoa (v.str.size:Int)++44::(v.bytes++idn r))):=by
 simp only [idn,List.flatMap_cons,Kt,List.append_assoc,List.cons_append,List.nil_append]
theorem Jyj: ∀ {r s:Row},idn r=idn s->r=s
 | [],[],_=>rfl
 | [],v::s,h=>by
  rw [Jkk]at h;have:=congrArg List.length h;simp [idn]at this
 | v::r,[],h=>by
  rw [Jkk]at h;have:=congrArg List.length h;simp [idn]at this
 | v::r,u::s,h=>by
  rw [Jkk,Jkk]at h;obtain ⟨h1,h⟩:=Jgn (Jxk _) (Jxk _) h;obtain ⟨h2,h⟩:=Jgn (Jxk _) (Jxk _) h;obtain ⟨h3,h⟩:=Jgn (Jxk _) (Jxk _) h;have h3:=Jfs h3;rw [Jzl,Jzl]at h3;obtain ⟨h4,h5⟩:=List.append_inj h om;have:=Jyj h5;subst this;have e:v=u:=by
   obtain ⟨k1,n1,s1⟩:=v;obtain ⟨k2,n2,s2⟩:=u;have a1:k1=k2:=Jfs h1;have a2:n1=n2:=Jfs h2;have a3:s1=s2:=by
    apply ByteArray.ext
    exact Array.toList_inj.1 h4
   rw [a1,a2,a3]
  rw [e]
theorem Qjb: ∀ {r:Row},(∀ v∈r,Ve v/\v.bytes.length<=24)->(idn r).length<=r.length*90
 | [],_=>by simp [idn]
 | v::r,h=>by
  have ih:=Qjb (r:=r) λu hu=>h u (List.mem_cons_of_mem _ hu);obtain ⟨⟨h1,h2⟩,h3⟩:=h v mC;have a1:=itoa_length_le _ h1.1 h1.2;have a2:=itoa_length_le _ h2.1 h2.2;have a3:=itoa_length_le (v.str.size:Int) om (by rw [Jzl];omega);rw [Jkk];simp only [List.length_append,List.length_cons];omega
open Go.RowKit Pl Go.Wk
attribute [local irreducible] WC WL QX WD WDB WP WN WG
variable {cs vars:List Nat}{cc d k s:Nat}{C D:Option Addr}{x:Row}{w:World}
theorem Jgx(v:V)(w:World): (Instr.buildSlice 37 1 #[(0,v.val)]).run Tryz.prog w=.ok (.slice (some ⟨w.heap.size,0,none⟩) 1 1) (w.alloc (.cells v.cells.toArray 47)):=kr
theorem rowC_app'(a b:Row): Jd (a++b)=Jd a++Jd b:=by simp [Jd]
theorem rowC_one''(v:V): Jd [v]=v.cells:=by simp [Jd]
theorem Qfd(h:k<cs.length): pmR (cs.take (k+1)) x=pmR (cs.take k) x++[x.getD (cs.getD k 0) V0]:=by
 unfold pmR;rw [Qy 0 h,List.map_append];rfl
theorem Jrp{vx:Value}(hx:RowV w vx x)(hC:Rd w 1 C cs.length (Jt (nz cs)))(hlt:∀ c∈cs,c<x.length)(hl:cs.length<=1000):
  Ret Tryz.prog 135 [vx,.slice C cs.length cc] w λu w'=>RowV w' u (pmR cs x)/\Ext w w':=by
 obtain ⟨A,c,rfl,ab,aa,hR⟩:=hx;refine Jz Tryz.func135 Tryz.ntmps135 rfl kr rfl ?_;refine ρ ?_;refine mk0 EV cs.length om (by unfold maxLen;omega) ?_;intro w0 O a1 a4;refine ρ ?_;refine Ja (fun (k:Nat) (vo:Value)=>[(0,.slice A x.length c),(5,vo),(11,.slice C cs.length cc),(12,.int .i64 (cs.length:Int)),(13,.int .i64 (k:Int))])
  (λk vo w'=>k<=cs.length/\Ext w w'/\Zt w' w.heap.size vo (pmR (cs.take k) x)) (λk _=>cs.length-k) 0 (.slice O 0 cs.length) sB
  ⟨Nat.zero_le _,a1,a4⟩ ?_
 rintro k vo w1 ⟨hk,o,U⟩;refine ρ ?_;refine ci (λh=>?_) (λh=>?_)
 .have lk:k<cs.length:=by have:=oT h;omega
  clear h;have Z:RdR w1 A x:=Rd.ext hR o;have J:=hlt _ (getD_mem' 0 cs lk);refine ρ ?_;refine ix k (hC.ext o) lk ?_;refine ρ ?_;refine ld ((hC.ext o).cell (Xn lk)) ?_;refine ρ ?_;refine ixq 3 (cs.getD k 0) Z J ?_;refine ρ ?_;refine lds (cs:=(x.getD (cs.getD k 0) V0).cells) (λj u hu=>RdR.cell Z J hu) ?_;refine ρ ?_;refine bsl (Jgx _) ?_;intro w2 b G hb hB;have a2:=Qfd (x:=x) lk;have a9:(pmR (cs.take k) x).length=k:=by rw [Qm,List.length_take];omega
  refine ρ ?_;refine apb (m':=1) (news:=(x.getD (cs.getD k 0) V0).cells) EV (Jk U G) (hB.rd (n:=1) rfl) (V.one _) (by unfold maxLen;omega) om (o.trans G).size ?_;intro v3 w3 a3 a6 a8;refine ρ ?_;refine Jl (k+1) v3 sO ⟨lk,Qb (o.trans G) a6 (Ga (Jk U G)),?_⟩ om;rw [Zt,a2,List.length_append,rowC_app',rowC_one''];exact a3
 have a5:k=cs.length:=by have:=oF h;omega
 rw [a5,List.take_length]at U;obtain ⟨A3,c3,rfl,a7,_⟩:=Jv U;refine ρ ?_;refine Jj ⟨⟨A3,c3,rfl,a7,by rw [Qm];omega,Rd.own U⟩,o⟩
theorem Qqp(hD:Rd w 1 D vars.length (Jt (nz vars)))(hs:s<4294967296)(hv:∀ v∈vars,v<32)(hl:vars.length<=32):
  Ret Tryz.prog 131 [.slice D vars.length d,.int .u32 (s:Int)] w λu w'=>Xu w' w.heap.size u (Ql vars s)/\Ext w w':=by
 refine Jz Tryz.func131 Tryz.ntmps131 rfl kr rfl ?_;refine ρ ?_;refine Ja (fun (k:Nat) (vc:Value)=>[(1,.int .u32 (s:Int)),(5,vc),(8,.slice D vars.length d),(9,.int .i64 (vars.length:Int)),(10,.int .i64 (k:Int))])
  (λk vc w'=>k<=vars.length/\Ext w w'/\Xu w' w.heap.size vc (Xp vars s k)) (λk _=>vars.length-k) 0 (.slice none 0 0) sB
  ⟨Nat.zero_le _,Ext.refl _,Xo _ _ _ _⟩ ?_
 rintro k vc w1 ⟨hk,o,G⟩;refine ρ ?_;refine ci (λh=>?_) (λh=>?_)
 .have lk:k<vars.length:=by have:=oT h;omega
  clear h;have a2:(Xp vars s k).length<=k:=by
   have:=List.length_filter_le (λi=>s.testBit (vars.getD i 0)) (List.range k);rw [List.length_range]at this;exact this
  refine ρ ?_;refine ix k (hD.ext o) lk ?_;refine ρ ?_;refine ld ((hD.ext o).cell (Xn lk)) ?_;refine ρ ?_;refine Km (s:=s) (v:=vars.getD k 0) (by have:=hv _ (getD_mem' 0 vars lk);omega) ?_;refine ρ ?_;refine ci (λh=>?_) (λh=>?_)
  .rw [Ua hs]at h;refine ρ ?_;refine bsl (bs1Int'' _) ?_;intro w2 b C hb hB;refine ρ ?_;refine apI (Jk G C) hB om (o.trans C).size ?_;intro Z w3 J U a1;refine ρ ?_;refine Jl (k+1) Z sO ⟨lk,Qb (o.trans C) U (Ga (Jk G C)),?_⟩ om;rw [Ky,if_pos h];exact J
  .rw [Ua hs]at h;refine ρ ?_;refine Jl (k+1) vc sO ⟨lk,o,?_⟩ om;rw [Ky,if_neg (by rw [h];simp),List.append_nil];exact G
 have O:k=vars.length:=by have:=oF h;omega
 rw [O]at G;refine ρ ?_;exact Jj ⟨G,o⟩
open Go.RowKit Pl Go.Wk
variable {a b l os:List UInt32}{c i k m n x y:Nat}
theorem Jmj(c:UInt32)(h:k<l.length): val (l.set k c)+4294967296^k*(l.getD k 0).toNat=val l+4294967296^k*c.toNat:=by
 induction l generalizing k with
 | nil=>simp at h
 | cons x l ih=>
  cases k with
  | zero=>simp [val];omega
  | succ k=>
   have:=ih (k:=k) (by simpa using h);simp only [List.set_cons_succ,val,List.getD_cons_succ,Nat.pow_succ];have u:4294967296^k*4294967296*(l.getD k 0).toNat=4294967296*(4294967296^k*(l.getD k 0).toNat):=by
    rw [Nat.mul_comm (4294967296^k) 4294967296,Nat.mul_assoc]
   have o:4294967296^k*4294967296*c.toNat=4294967296*(4294967296^k*c.toNat):=by
    rw [Nat.mul_comm (4294967296^k) 4294967296,Nat.mul_assoc]
   rw [u,o];omega
structure MulO(a b:List UInt32)(i:Nat)(os:List UInt32): Prop where
 len:os.length=a.length+b.length
 val:val os=val (a.take i)*val b
 zero:∀ k,i+b.length<=k->os.getD k 0=0
structure MulI(a b:List UInt32)(i j c:Nat)(os:List UInt32): Prop where
 len:os.length=a.length+b.length
 small:c<4294967296
 val:val os+4294967296^(i+j)*c=Pl.val (a.take i)*Pl.val b+4294967296^i*(a.getD i 0).toNat*Pl.val (b.take j)
 zero:∀ k,i+b.length<=k->os.getD k 0=0
theorem Jfz(c:UInt32)(h:k≠m): (l.set k c).getD m 0=l.getD m 0:=by
 simp [List.getD,List.getElem?_set_ne h]
theorem Jsl(hx:x<4294967296)(hy:y<4294967296): x*y<=18446744065119617025:=by
 have:=Nat.mul_le_mul (show x<=4294967295 by omega) (show y<=4294967295 by omega);omega
theorem MulO.first: MulO a b 0 (List.replicate (a.length+b.length) 0):=by
 refine ⟨by simp,?_,λk _=>?_⟩
 .have:∀ n,Pl.val (List.replicate n (0:UInt32))=0:=λn=>by
   induction n with
   | zero=>rfl
   | succ n ih=>rw [List.replicate_succ];simp [Pl.val,ih]
  rw [this];simp [Pl.val]
 .simp only [List.getD,List.getElem?_replicate];split<;>rfl
theorem MulO.start(h:MulO a b i os): MulI a b i 0 0 os :=
 ⟨h.len,om,by rw [h.val];simp [Pl.val],h.zero⟩
theorem MulI.step{j s:Nat}(h:MulI a b i j c os)(hi:i<a.length)(hj:j<b.length)(hs:s=c+((a.getD i 0).toNat*(b.getD j 0).toNat+(os.getD (i+j) 0).toNat)):
  MulI a b i (j+1) (s / 4294967296) (os.set (i+j) (UInt32.ofNat s))/\s<18446744073709551616:=by
 obtain ⟨h1,h2,h3,h4⟩:=h;have J:(a.getD i 0).toNat<4294967296:=(a.getD i 0).toNat_lt;have G:(b.getD j 0).toNat<4294967296:=(b.getD j 0).toNat_lt;have hz:(os.getD (i+j) 0).toNat<4294967296:=(os.getD (i+j) 0).toNat_lt;have hm:=Jsl J G;have o:s<18446744073709551616:=om
 refine ⟨⟨by rw [List.length_set];exact h1,om,?_,λk O=>by rw [Jfz _ om];exact h4 k O⟩,o⟩;have e:=Jmj (UInt32.ofNat s) (show i+j<os.length by omega);rw [UInt32.toNat_ofNat']at e;rw [Jqf];generalize hX:(a.getD i 0).toNat=X at *
 generalize hY:(b.getD j 0).toNat=Y at *
 generalize hZ:(os.getD (i+j) 0).toNat=Z at *
 generalize Pl.val (os.set (i+j) (UInt32.ofNat s))=V' at *
 generalize Pl.val os=V at *
 generalize Pl.val (b.take j)=W at *
 generalize Pl.val (a.take i)*Pl.val b=U at *
 have C:4294967296^(i+(j+1))*(s / 4294967296)=4294967296^(i+j)*(4294967296*(s / 4294967296)):=by
  rw [show i+(j+1)=(i+j)+1 by omega,Nat.pow_succ,Nat.mul_assoc]
 have u:4294967296^i*X*(W+4294967296^j*Y)=4294967296^i*X*W+4294967296^(i+j)*(X*Y):=by
  rw [Nat.mul_add,Nat.pow_add];congr 1
  simp only [Nat.mul_assoc,Nat.mul_left_comm,Nat.mul_comm]
 have p3:4294967296^(i+j)*(s % 2^32)+4294967296^(i+j)*(4294967296*(s / 4294967296))=4294967296^(i+j)*c+(4294967296^(i+j)*(X*Y)+4294967296^(i+j)*Z):=by
  rw [<-Nat.mul_add,<-Nat.mul_add,<-Nat.mul_add];congr 1
  omega
 rw [C,u];omega
theorem MulI.last(h:MulI a b i b.length c os)(hi:i<a.length): MulO a b (i+1) (os.set (i+b.length) (UInt32.ofNat c)):=by
 obtain ⟨C,J,u,o⟩:=h;refine ⟨by rw [List.length_set];exact C,?_,λk G=>by rw [Jfz _ om];exact o k om⟩;have e:=Jmj (UInt32.ofNat c) (show i+b.length<os.length by omega);rw [o _ (Nat.le_refl _),UInt32.toNat_ofNat',show c % 2^32=c by omega,show (0:UInt32).toNat=0 from rfl,Nat.mul_zero,Nat.add_zero]at e;rw [e,u,List.take_length,Jqf,Nat.add_mul]
theorem Qhd{z:Nat}(hc:c<4294967296)(hx:x<4294967296)(hy:y<4294967296)(hz:z<4294967296):
  IntKind.u64.wrap ((c:Int)+IntKind.u64.wrap (IntKind.u64.wrap (IntKind.u64.wrap (x:Int)*IntKind.u64.wrap (y:Int))+IntKind.u64.wrap (z:Int)))=((c+(x*y+z):Nat):Int):=by
 have o:=Jsl hx hy;have w:∀ n:Nat,n<18446744073709551616->IntKind.u64.wrap (n:Int)=(n:Int):=λn hn=>by rw [IntKind.wrap_u64];omega
 rw [w x om,w y om,w z om,<-Int.natCast_mul,w _ om,<-Int.natCast_add,w _ om,<-Int.natCast_add,w _ om]
theorem Jzz{v u:Value}{w:World}(hv:NatV w v n)(hu:NatV w u m)(hln:(Jq n).length<=1000)(hlm:(Jq m).length<=1000): Ret Tryz.prog 15 [v,u] w λr w'=>NatV w' r (n*m)/\Fresh w r/\Ext w w':=by
 refine Jz Tryz.func15 Tryz.ntmps15 rfl kr rfl ?_;refine ρ ?_;refine cl (Ub hv) ?_;rintro v' w' ⟨⟨A,rfl,ha⟩,rfl⟩;refine ρ ?_;refine cl (Ub hu) ?_;rintro u' J ⟨⟨B,rfl,hb⟩,rfl⟩;generalize hL:(Jq n).length=L at *
 generalize hM:(Jq m).length=M at *
 refine ρ ?_;refine mkn EN (L+M) om (by unfold maxLen;omega) ?_;intro w1 O ac a8 hO;have a7:Xr w1 J.heap.size (.slice O (L+M) (L+M)) (List.replicate (L+M) 0):=by
  have e:(madeCells (Value.int .u32 0).cells ((L+M)*1)).toList=Nc (List.replicate (L+M) 0):=by rw [Nat.mul_one,<-Jhp];exact Yf _ _
  rw [e]at a8;rw [Xr,List.length_replicate];exact a8
 refine ρ ?_;refine Ja (fun (i:Nat) (o:List UInt32)=>[(0,.slice A L L),(1,.slice B M M),(5,.slice O (L+M) (L+M)),(20,.int .i64 (L:Int)),(21,.int .i64 (i:Int))])
  (λi o w2=>i<=L/\Ext J w2/\MulO (Jq n) (Jq m) i o/\Xr w2 J.heap.size (.slice O (L+M) (L+M)) o) (λi _=>L-i) 0 (List.replicate (L+M) 0) sB
  ⟨Nat.zero_le _,ac,by rw [<-hL,<-hM];exact MulO.first,a7⟩ ?_
 rintro i o w2 ⟨hi,a6,hI,a5⟩;refine ρ ?_;refine ci (λh=>?_) (λh=>?_)
 .have li:i<L:=by have:=oT h;omega
  clear h;refine ρ ?_;refine Xt (fun (j c:Nat) (o:List UInt32)=>[(0,.slice A L L),(1,.slice B M M),(5,.slice O (L+M) (L+M)),(6,.int .i64 (i:Int)),(7,.int .u64 (c:Int)),(20,.int .i64 (L:Int)),(21,.int .i64 (i:Int)),(25,.int .i64 (M:Int)),(26,.int .i64 (j:Int))])
   (λj c o w3=>j<=M/\Ext J w3/\MulI (Jq n) (Jq m) i j c o/\Xr w3 J.heap.size (.slice O (L+M) (L+M)) o) (λj _ _=>M-j) 0 0 o sB
   ⟨Nat.zero_le _,a6,hI.start,a5⟩ ?_
  clear hI a5;rintro j c o w3 ⟨hj,a1,hI,U⟩;have C:o.length=L+M:=by rw [hI.len,hL,hM]
  refine ρ ?_;refine ci (λh=>?_) (λh=>?_)
  .have lj:j<M:=by have:=oT h;omega
   clear h;have Z:Ext w3 w3.drew:=(Ext.refl w3).drew;have ab:=ha.ext (a1.trans Z);have aa:=hb.ext (a1.trans Z);have G:=Jk U Z;rw [C]at G;have a4:Rd w3.drew 1 O (L+M) (Nc o):=Rd.own G;refine ρ ?_;refine dr [(0,0),(0,1),(0,2),(0,3),(0,4),(0,5),(0,6),(0,7),(0,8),(0,9),(0,10),(0,11),(0,12),(0,13),(0,14),(0,15),(0,16),(0,17),(0,18),(0,19),(0,20),(0,21)] kr ?_;refine ρd ?_;refine dix i ab li ?_;refine ρd ?_;refine dld (ab.cell (Zl (show i<(Jq n).length by omega))) ?_;refine ρd ?_;refine dix j aa lj ?_;refine ρd ?_;refine dld (aa.cell (Zl (show j<(Jq m).length by omega))) ?_;refine ρd ?_;refine dix (i+j) a4 om ?_;refine ρd ?_;refine dld (a4.cell (Zl (show i+j<o.length by omega))) ?_;refine ρd ?_;have hx:((Jq n).getD i 0).toNat<4294967296:=((Jq n).getD i 0).toNat_lt;have hy:((Jq m).getD j 0).toNat<4294967296:=((Jq m).getD j 0).toNat_lt;have hz:(o.getD (i+j) 0).toNat<4294967296:=(o.getD (i+j) 0).toNat_lt
   obtain ⟨a3,ah⟩:=hI.step (s:=c+(((Jq n).getD i 0).toNat*((Jq m).getD j 0).toNat+(o.getD (i+j) 0).toNat)) om om rfl;have a9:=Qhd hI.small hx hy hz;refine ρ ?_;generalize c+(((Jq n).getD i 0).toNat*((Jq m).getD j 0).toNat+(o.getD (i+j) 0).toNat)=s at *
   refine kv 7 (u:=.int .u64 (s:Int)) (congrArg (Value.int .u64) a9) ?_;refine kv 55 (u:=.int .u32 ((UInt32.ofNat s).toNat:Int)) (congrArg (Value.int .u32) ((congrArg IntKind.u32.wrap a9).trans (Uy s))) ?_;obtain ⟨s1,s2,s3,s4,s5⟩:=Zv G (q:=i+j) om (.int .u32 ((UInt32.ofNat s).toNat:Int));refine ρ ?_;refine ix (i+j) a4 om ?_;refine sto (s1.trans (Zl (show i+j<o.length by omega))) s2 ?_;refine ρ ?_;refine Ym rfl rfl (by decide) rfl ?_;refine ρ ?_;refine Xj (j+1) (s / 4294967296) (o.set (i+j) (UInt32.ofNat s)) ?_ ⟨lj,(a1.trans Z).setCell s4 _,a3,?_⟩ om
   .rw [Jcl];exact sB
   .rw [Xr,List.length_set,C,<-Jzd];exact s3
  have af:j=M:=by have:=oF h;omega
  subst af;clear h;have ae:MulI (Jq n) (Jq m) i (Jq m).length c o:=by rw [hM];exact hI
  have hl:=ae.last (show i<(Jq n).length by omega);have G:=U;rw [Xr,C]at G;obtain ⟨s1,s2,s3,s4,s5⟩:=Zv G (q:=i+j) om (.int .u32 ((UInt32.ofNat c).toNat:Int));refine ρ ?_;refine ix (i+j) (Rd.own G) om ?_;rw [Uy];refine sto (s1.trans (Zl (show i+j<o.length by omega))) s2 ?_;refine ρ ?_;rw [hM]at hl;refine Jl (i+1) (o.set (i+j) (UInt32.ofNat c)) sO ⟨li,a1.setCell s4 _,hl,?_⟩ om;rw [Xr,List.length_set,C,<-Jzd];exact s3
 have ag:i=L:=by have:=oF h;omega
 have C:o.length=L+M:=by rw [hI.len,hL,hM]
 have a2:=hI.val;rw [ag,List.take_of_length_le om,Zm,Zm]at a2;have U:=a5;rw [Xr,C]at U;have hr:=Rd.own U;refine ρ ?_;rw [<-C]at hr ⊢;refine cl (Iv hr (Nat.le_refl _) om) ?_;rintro t w4 ⟨rfl,rfl⟩;have:=Jqh hr om;rw [a2]at this ⊢;refine ρ ?_;exact Jj ⟨this,λad _ _ e=>hO ad (by injection e),a6⟩
open Go.RowKit Pl Go.Wk
variable {l os:List UInt32}{c d k m n r x:Nat}{A:Option Addr}{w:World}
theorem Qhz(h0:n≠0)(h:n<4294967296): Jq n=[UInt32.ofNat n]:=by
 rw [Jyf h0,show n / 4294967296=0 by omega,limbs_0]
theorem Qxf{cs:List Value}(hr:Rd w 1 A n cs)(h1:∀ u∈cs,u.oneCell'=true)(hb:n*4<=140737488355328):
  Ret Tryz.prog 89 [.slice A n c] w λv w'=>w'.ownsRow w.heap.size 110 1 v n cs/\Ext w w':=by
 refine Jz Tryz.func89 Tryz.ntmps89 rfl kr rfl ?_;refine ρ ?_;refine Il ?_;refine ρ ?_;refine ci (λh=>?_) (λh=>?_)
 .have Z:A=none:=by simpa using h
  subst Z;have hn:n=0:=by
   rcases Nat.eq_zero_or_pos n with h0|h0
   .exact h0
   .obtain ⟨ad,h2,_⟩:=hr.isome h0 om;cases h2
  subst hn;have O:cs=[]:=List.eq_nil_of_length_eq_zero (by rw [hr.len]);subst O;refine ρ ?_;exact Jj ⟨Xo _ _ _ _,Ext.refl w⟩
 .refine ρ ?_;refine bsl Qzb ?_;intro w1 b o U J;refine ρ ?_;refine apo o EN (J.own (n:=0) U rfl (Nat.zero_le _)) (hr.ext o) h1 (by unfold maxLen;omega) om ?_;intro v2 w2 C G _ _;refine ρ ?_;rw [Nat.zero_add,List.nil_append]at C;exact Jj ⟨C,G⟩
theorem Jmk(h:k<l.length): val (l.drop k)=(l.getD k 0).toNat+4294967296*val (l.drop (k+1)):=by
 rw [List.drop_eq_getElem_cons h];simp [val,List.getD,List.getElem?_eq_getElem h]
structure DivI(l:List UInt32)(d k r:Nat)(os:List UInt32): Prop where
 len:os.length=l.length
 lt:r<d
 old:∀ j,j<k->os.getD j 0=l.getD j 0
 val:val (l.drop k)=Pl.val (os.drop k)*d+r
theorem DivI.step{s:Nat}(h:DivI l d (k+1) r os)(hk:k<l.length)(hd:d<4294967296)(hs:s=r*4294967296+(l.getD k 0).toNat): DivI l d k (s % d) (os.set k (UInt32.ofNat (s / d)))/\s<18446744073709551616:=by
 obtain ⟨u,h2,G,C⟩:=h;have U:(l.getD k 0).toNat<4294967296:=(l.getD k 0).toNat_lt;have o:s<4294967296*d:=by rw [hs];omega
 have Z:s / d<4294967296:=Nat.div_lt_of_lt_mul (by rw [Nat.mul_comm];exact o);refine ⟨⟨by rw [List.length_set];exact u,Nat.mod_lt _ om,λj hj=>by rw [Jfz _ om];exact G j om,?_⟩,om⟩;rw [Jmk hk,Jmk (l:=os.set k (UInt32.ofNat (s / d))) (k:=k) (by rw [List.length_set];omega),C];have O:(os.set k (UInt32.ofNat (s / d))).getD k 0=UInt32.ofNat (s / d):=by simp [List.getD,u,hk]
 have J:(os.set k (UInt32.ofNat (s / d))).drop (k+1)=os.drop (k+1):=List.drop_set_of_lt om;rw [O,J,UInt32.toNat_ofNat',Nat.mod_eq_of_lt (show s / d<2^32 by omega)];have:=Nat.div_add_mod s d;generalize Pl.val (os.drop (k+1))=V at *
 rw [Nat.mul_add,Nat.add_mul,<-Nat.mul_assoc];have e3:s / d*d=d*(s / d):=Nat.mul_comm _ _;omega
theorem Qpf(hr:r<4294967296)(hx:x<4294967296): bits .or .u64 (IntKind.u64.wrap ((r:Int)*2^min (32:Int).toNat IntKind.u64.bits)) (IntKind.u64.wrap (x:Int))=((r*4294967296+x:Nat):Int):=by
 have C:(2:Int)^min (32:Int).toNat IntKind.u64.bits=4294967296:=by decide
 have u:IntKind.u64.wrap ((r:Int)*4294967296)=((r*4294967296:Nat):Int):=by rw [IntKind.wrap_u64];omega
 have o:IntKind.u64.wrap (x:Int)=(x:Int):=by rw [IntKind.wrap_u64];omega
 rw [C,u,o,u64_or_nat _ _ om om,nat_join 32 (r*4294967296) x (by simp) om]
theorem Qpg{L base:Nat}(hL:l.length=L)(hLm:L<=1100)(ho:w.ownsRow base 110 1 (.slice A L c) L (Nc l))(h0:0<d)(hd:d<4294967296):
  Ret Tryz.prog 90 [.slice A L c,.int .u32 (d:Int)] w λr w'=>r=.int .u32 ((val l % d:Nat):Int)/\(∃ os:List UInt32,os.length=L/\val os=val l / d/\w'.ownsRow base 110 1 (.slice A L c) L (Nc os))/\w.grownBy w' (Value.slice A L c).ownBlock:=by
 refine Jz Tryz.func90 Tryz.ntmps90 rfl kr rfl ?_;refine ρ ?_;refine Xt (fun (k r:Nat) (os:List UInt32)=>[(0,.slice A L c),(1,.int .u32 (d:Int)),(5,.int .u64 (r:Int)),(6,.int .i64 ((k:Int)-1))])
  (λk r os w1=>k<=L/\DivI l d k r os/\w1.ownsRow base 110 1 (.slice A L c) L (Nc os)/\w.grownBy w1 (Value.slice A L c).ownBlock) (λk _ _=>k) L 0 l sB
  ⟨Nat.le_refl _,⟨rfl,h0,λ_ _=>rfl,by rw [List.drop_of_length_le om];simp [val]⟩,ho,Zg (Ext.refl w) _⟩ ?_
 rintro k r os w1 ⟨hk,U,G,O⟩;have a1:os.length=L:=by rw [U.len,hL]
 refine ρ ?_;refine ci (λh=>?_) (λh=>?_)
 .obtain ⟨k,rfl⟩:∃ j,k=j+1:=⟨k-1,by have:=oT h;omega⟩;clear h;obtain ⟨s,hs⟩:∃ s,s=r*4294967296+(l.getD k 0).toNat:=⟨_,rfl⟩;obtain ⟨o,a3⟩:=U.step om hd hs;have hx:(l.getD k 0).toNat<4294967296:=(l.getD k 0).toNat_lt;have a4:=U.lt;have C:Rd w1 1 A L (Nc os):=Rd.own G;have J:=U.old k om;refine ρ ?_;refine wshl rfl rfl (by decide) rfl ?_;refine ρ ?_;refine ix k C om ?_;refine ρ ?_;refine ld (C.cell (Zl (show k<os.length by omega))) ?_;rw [J];refine ρ ?_;have Z:bits .or .u64 (IntKind.u64.wrap ((r:Int)*2^min (32:Int).toNat IntKind.u64.bits)) (IntKind.u64.wrap ((l.getD k 0).toNat:Int))=(s:Int):=by rw [hs];exact Qpf om hx
  refine kv 5 (u:=.int .u64 (s:Int)) (congrArg (Value.int .u64) Z) ?_;refine kv 24 (u:=.int .u64 (s:Int)) (congrArg (Value.int .u64) Z) ?_;have ed:IntKind.u64.wrap (d:Int)=(d:Int):=by rw [IntKind.wrap_u64];omega
  refine kv 26 (u:=.int .u64 (d:Int)) (congrArg (Value.int .u64) ed) ?_;refine wquo rfl rfl om rfl ?_;have hq:s / d<=s:=Nat.div_le_self _ _;have e2:IntKind.u32.wrap (IntKind.u64.wrap ((s:Int).tdiv d))=((UInt32.ofNat (s / d)).toNat:Int):=by
   have:(s:Int).tdiv d=((s / d:Nat):Int):=rfl;rw [this];generalize s / d=q at *
   rw [Uv om,Uy]
  obtain ⟨s1,s2,s3,s4,s5⟩:=Zv G (q:=k) om (.int .u32 ((UInt32.ofNat (s / d)).toNat:Int));refine ρ ?_;refine ix k C om ?_;rw [e2];refine sto (s1.trans (Zl (show k<os.length by omega))) s2 ?_;refine ρ ?_;refine kv 32 (u:=.int .u64 (d:Int)) (congrArg (Value.int .u64) ed) ?_;refine wrem rfl rfl om rfl ?_;refine ρ ?_;refine Xj k (s % d) (os.set k (UInt32.ofNat (s / d))) ?_ ⟨om,o,?_,Zc O s5⟩ om
  .have e3:(s:Int).tmod d=((s % d:Nat):Int):=rfl;rw [e3];exact sO
  .rw [<-Jzd];exact s3
 .have a2:k=0:=by have:=oF h;omega
  subst a2;obtain ⟨i1,i2,_,i4⟩:=U;rw [List.drop_zero,List.drop_zero]at i4;have hm:r=val l % d:=by rw [i4,Nat.add_comm,Nat.add_mul_mod_self_right,Nat.mod_eq_of_lt i2]
  have hv:val os=val l / d:=by
   rw [i4,Nat.add_comm,Nat.add_mul_div_right _ _ h0,Nat.div_eq_of_lt i2,Nat.zero_add]
  refine ρ ?_;refine Jj ⟨?_,⟨os,a1,hv,G⟩,O⟩;rw [Uy,UInt32.toNat_ofNat',Nat.mod_eq_of_lt (show r<2^32 by omega),hm]
theorem Qhb{v u:Value}(hv:NatV w v n)(hu:NatV w u m)(hn:(Jq n).length<=1000)(h0:0<m)(hm:m<4294967296):
  Ret Tryz.prog 49 [v,u] w λr w'=>(∃ x y,r=.tuple #[x,y,.int .i64 0]/\NatV w' x (n / m)/\NatV w' y (n % m))/\Ext w w':=by
 have J:Jq m=[UInt32.ofNat m]:=Qhz om hm;refine Jz Tryz.func49 Tryz.ntmps49 rfl kr rfl ?_;refine ρ ?_;refine cl (Ub hv) ?_;rintro v' w' ⟨⟨A,rfl,ha⟩,rfl⟩;refine ρ ?_;refine cl (Ub hu) ?_;rintro u' a2 ⟨⟨B,rfl,hb⟩,rfl⟩;rw [J]at hb ⊢;refine ρ ?_;refine cl (Kn (n:=n) (m:=m) ⟨A,_,rfl,Nat.le_refl _,om,ha⟩ ⟨B,1,by rw [J],by rw [J];simp,by rw [J];simp,by rw [J];exact hb⟩) ?_;rintro t w' ⟨rfl,o⟩;refine ρ ?_;refine ci (λh=>?_) (λh=>?_)
 .have Z:n<m:=by
   have:=oT h;unfold Yv at this;rcases Nat.lt_or_ge n m with h1|h1
   .exact h1
   .rw [if_neg om]at this;split at this<;>omega
  refine ρ ?_;refine cl (Qrt (ha.ext o) (Jhq _) om) ?_;rintro v' w1 ⟨⟨A',c',rfl,hc,hr⟩,hx⟩;refine ρ ?_;refine Um ⟨⟨.slice none 0 0,_,rfl,?_,?_⟩,o.trans hx⟩
  .rw [Nat.div_eq_of_lt Z];exact NatV.nil _
  .rw [Nat.mod_eq_of_lt Z];exact ⟨A',c',rfl,hc,om,hr⟩
 refine ρ ?_;refine cl (Qxf (ha.ext o) (Jhq _) om) ?_;rintro q w1 ⟨ho,U⟩;obtain ⟨A',c',rfl,hc,hf⟩:=Jv ho;have a1:=(hb.ext o).ext U;refine ρ ?_;refine ix 0 a1 (by simp) ?_;refine ρ ?_;refine ld (a1.cell (Zl (l:=[UInt32.ofNat m]) (k:=0) (by simp))) ?_;have em:(([UInt32.ofNat m].getD 0 0).toNat:Int)=(m:Int):=by
  show ((UInt32.ofNat m).toNat:Int)=m;rw [UInt32.toNat_ofNat',Nat.mod_eq_of_lt (show m<2^32 by omega)]
 rw [em];refine ρ ?_;refine cl (Qpg rfl om ho h0 hm) ?_;rintro r w2 ⟨rfl,⟨os,a4,C,a5⟩,a6⟩;rw [Zm]at C ⊢;have a3:Ext a2 w2:=Qb (o.trans U) a6 (λk e=>nL o.size (hf k e).1);have G:=Rd.own a5;rw [<-a4]at G hc ⊢;refine ρ ?_;refine cl (Iv G hc om) ?_;rintro t w3 ⟨rfl,rfl⟩;have:=Jqh G om;rw [C]at this ⊢;have hr:n % m<m:=Nat.mod_lt _ h0;refine ρ ?_;rw [Uv om];refine cl (Qgz (n % m) om _) ?_;rintro y w4 ⟨hy,O⟩;refine ρ ?_;exact Um ⟨⟨_,y,rfl,this.ext O,hy⟩,a3.trans O⟩
end Go.Proofs.YtebcagekopgdhaaGreatDoor
namespace Go.Wk
variable {d n t ty:Nat}
theorem dbx{P:Program}{al:AL}{w:World}{Q:Exit->Act->World->Prop}{ops:Array Oper}{drest:List (Nat×Oper)}{pos:String}{aft:Array Edge}{x:Operand}{v:Value}{cs:List Value}(kk:∀ w1 b,Ext w w1->w.heap.size<=b->Blk w1 b t cs->WD P n ops Q drest ((d,.pointer (some ⟨b,0,none⟩))::al) w1)(hx:ev al x=some v:=by rfl)(hv:v.cells=cs.toArray:=by rfl)(hd:Nat.blt d n=true:=by rfl): WD P n ops Q ((1,⟨some d,.box t x,ty,pos,aft,none⟩)::drest) al w :=
 Up (bx (λw1 b o C u=>Jh (Un o (kk w1 b o C u))) hx hv hd)
end Go.Wk
namespace Go.Proofs.YtebcagekopgdhaaGreatDoor
open Go.RowKit Pl Go.Wk
attribute [local irreducible] WC WL QX WD WDB WP WN WG
variable {c m n:Nat}{N N':Nat->Prop}{l r t:Tr}{pl pr u v wt:Value}{w w':World}
theorem Jsz(h:0<(Jq n).length): n≠0:=λe=>by rw [e,limbs_0]at h;simp at h
def NatX(N:Nat->Prop)(w:World)(v:Value)(n:Nat): Prop:=NatV w v n/\(n≠0->∀ ad m c,v=.slice (some ad) m c->¬ N ad.block)
theorem NatX.ext{N:Nat->Prop}{w w':World}{v:Value}{n:Nat}(h:NatX N w v n)(hx:Ext w w'): NatX N w' v n:=⟨h.1.ext hx,h.2⟩
theorem NatX.gr(h:NatX N w v n)(hg:GrN N w w'): NatX N w' v n:=by
 obtain ⟨⟨A,c,rfl,G,C,u⟩,o⟩:=h;exact ⟨⟨A,c,rfl,G,C,Vv u hg (λh0 J e=>o (Jsz (by rw [Xqr]at h0;exact h0)) J _ _ (by rw [e]))⟩,o⟩
theorem NatX.nil{N:Nat->Prop}(w:World): NatX N w (.slice none 0 0) 0:=⟨NatV.nil w,λ_ o m c e=>by cases e⟩
theorem limbs_pos'(h:n≠0): 0<(Jq n).length:=by rw [Jyf h];simp
theorem NatX.old(h:NatX N w v n)(hs:∀ k,N' k->N k∨w.heap.size<=k): NatX N' w v n:=⟨h.1,λh0 O m c e G=>by
 rcases hs _ G with h1|h1
 .exact h.2 h0 O m c e h1
 .obtain ⟨A,Z,u,_,_,C⟩:=h.1;rw [e]at u;injection u with e3 e4 e5
  subst e3;obtain ⟨J,o,U⟩:=Rd.isome C (limbs_pos' h0) om;injection o with o;subst o;omega⟩
theorem Fresh.x(h:Fresh w v)(hn:NatV w' v n)(hN:∀ k,N k->k<w.heap.size): NatX N w' v n :=
 ⟨hn,λ_ u m c e o=>by have:=h u m c e;have:=hN _ o;omega⟩
def TrV(N:Nat->Prop)(w:World): Tr->Value->Prop
 | .nil,u=>u=.pointer none
 | .node l v x r,u=>∃ b wt pl pr st,u=.pointer (some ⟨b,0,none⟩)/\(Blk w b 233 (v.cells++[wt,pl,pr,.int .i64 ((Tr.node l v x r).ht:Int),.int .i64 ((Tr.node l v x r).sz:Int),st])/\¬ N b)/\NatX N w wt x/\NatX N w st (Tr.node l v x r).sum/\TrV N w l pl/\TrV N w r pr
theorem TrV.gr{N:Nat->Prop}{w w':World}: ∀ {t:Tr} {u:Value},TrV N w t u->GrN N w w'->TrV N w' t u
 | .nil,u,h,_=>h
 | .node l v x r,u,h,hx=>by
  obtain ⟨b,wt,pl,pr,st,h1,⟨h2,h2'⟩,h3,h4,h5,h6⟩:=h;exact ⟨b,wt,pl,pr,st,h1,⟨Jc h2 hx h2',h2'⟩,h3.gr hx,h4.gr hx,h5.gr hx,h6.gr hx⟩
theorem TrV.ext{N:Nat->Prop}{w w':World}{t:Tr}{u:Value}(h:TrV N w t u)(hx:Ext w w'): TrV N w' t u:=h.gr (GrN.ext hx)
theorem TrV.old{N N':Nat->Prop}{w:World}(hs:∀ k,N' k->N k∨w.heap.size<=k): ∀ {t:Tr} {u:Value},TrV N w t u->TrV N' w t u
 | .nil,u,h=>h
 | .node l v x r,u,h=>by
  obtain ⟨b,wt,pl,pr,st,h1,⟨h2,h2'⟩,h3,h4,h5,h6⟩:=h;exact ⟨b,wt,pl,pr,st,h1,⟨h2,λhk=>(hs _ hk).elim h2' (λh=>by have:=h2.lt;omega)⟩,h3.old hs,h4.old hs,h5.old hs,h6.old hs⟩
theorem TrV.ptr(h:TrV N w t u): ∃ p,u=.pointer p:=by
 cases t with
 | nil=>exact ⟨none,h⟩
 | node l v x r=>obtain ⟨b,_,_,_,_,o,_⟩:=h;exact ⟨_,o⟩
theorem Jdr(hv:NatV w v n)(hs:(Jq n).length<=1000): Ret Tryz.prog 56 [v] w λr w'=>NatV w' r n/\Fresh w r/\Ext w w':=by
 refine Jz Tryz.func56 Tryz.ntmps56 rfl kr rfl ?_;refine ρ ?_;refine cl (Ub hv) ?_;rintro u w' ⟨⟨A,rfl,O⟩,rfl⟩;refine ρ ?_;refine cl (Qxf O (Jhq _) om) ?_;rintro u w1 ⟨o,C⟩;obtain ⟨A',U,rfl,J,G⟩:=Jv o;refine ρ ?_;refine Jj ⟨⟨A',U,rfl,J,om,Rd.own o⟩,λZ m c e=>?_,C⟩;injection e with e1 e2 e3
 subst e1;exact (G Z.block rfl).1
theorem Qzv: ∃ k:Nat,k=900:=⟨_,rfl⟩
noncomputable def bK: Nat:=Classical.choose Qzv
theorem Jhh: bK=900:=Classical.choose_spec Qzv
def Nb(n:Nat): Prop:=n<4294967296^bK
theorem Nb.len(h:Nb n): (Jq n).length<=1000:=by
 rcases Nat.eq_zero_or_pos n with h0|h0
 .rw [h0,limbs_0];simp
 .have o:=Jtb (n:=n) om;rcases Nat.lt_or_ge bK ((Jq n).length-1) with h2|h2
  .exact absurd (nM h (nL (Nat.pow_le_pow_right (by decide) (Nat.le_of_lt h2)) o)) (Nat.lt_irrefl _)
  .rw [Jhh]at h2;omega
theorem Nb.le(h:Nb n)(hm:m<=n): Nb m:=Nat.lt_of_le_of_lt hm h
theorem Ka(h:TrV N w t u): Ret Tryz.prog 117 [u] w λr w'=>r=.int .i64 (t.ht:Int)/\w'=w:=by
 refine Jz Tryz.func117 Tryz.ntmps117 rfl kr rfl ?_;cases t with
 | nil=>
  obtain rfl:u=.pointer none:=h;refine ρ ?_;refine pnl ?_;refine ρ ?_;exact Jj ⟨rfl,rfl⟩
 | node l v x r=>
  obtain ⟨b,C,J,G,st,rfl,⟨o,_⟩,h3,Z,U,O⟩:=h;refine ρ ?_;refine pnl ?_;refine ρ ?_;refine ld (o.at (i:=6) rfl) ?_;refine ρ ?_;exact Jj ⟨rfl,rfl⟩
theorem Jnn(h:TrV N w t u): Ret Tryz.prog 208 [u] w λr w'=>r=.int .i64 (t.sz:Int)/\w'=w:=by
 refine Jz Tryz.func208 Tryz.ntmps208 rfl kr rfl ?_;cases t with
 | nil=>
  obtain rfl:u=.pointer none:=h;refine ρ ?_;refine pnl ?_;refine ρ ?_;exact Jj ⟨rfl,rfl⟩
 | node l v x r=>
  obtain ⟨b,C,J,G,st,rfl,⟨o,_⟩,h3,Z,U,O⟩:=h;refine ρ ?_;refine pnl ?_;refine ρ ?_;refine ld (o.at (i:=7) rfl) ?_;refine ρ ?_;exact Jj ⟨rfl,rfl⟩
theorem Jqj(h:TrV N w t u): Ret Tryz.prog 154 [u] w λr w'=>NatX N w r t.sum/\w'=w:=by
 refine Jz Tryz.func154 Tryz.ntmps154 rfl kr rfl ?_;cases t with
 | nil=>
  obtain rfl:u=.pointer none:=h;refine ρ ?_;refine pnl ?_;refine ρ ?_;exact Jj ⟨NatX.nil _,rfl⟩
 | node l v x r=>
  obtain ⟨b,G,O,J,st,rfl,⟨C,_⟩,h3,o,Z,U⟩:=h;refine ρ ?_;refine pnl ?_;refine ρ ?_;refine ld (C.at (i:=8) rfl) ?_;refine ρ ?_;exact Jj ⟨o,rfl⟩
structure NatsV(w:World)(A:Option Addr)(us:List Value)(ns:List Nat): Prop where
 rd:Rd w 1 A us.length us
 len:us.length=ns.length
 nat:∀ i,i<ns.length->NatV w (us.getD i (.int .i64 0)) (ns.getD i 0)
theorem Qgw{A:Option Addr}{us:List Value}{ns:List Nat}(h:NatsV w A us ns)(hN:Nb (ns.foldl (· + ·) 0))(hl:ns.length<=1000)(hsub:∀ i,i<=ns.length->Nb ((ns.take i).foldl (· + ·) 0))(hone:∀ x∈ns,Nb x):
  Ret Tryz.prog 209 [.slice A us.length c] w λr w'=>NatV w' r (ns.foldl (· + ·) 0)/\Fresh w r/\Ext w w':=by
 have a2:=h.len;refine Jz Tryz.func209 Tryz.ntmps209 rfl kr rfl ?_;refine ρ ?_;refine Ja (fun (i:Nat) (vs:Value)=>[(0,.slice A us.length c),(3,vs),(6,.int .i64 (us.length:Int)),(7,.int .i64 (i:Int))])
  (λi vs w'=>i<=ns.length/\Ext w w'/\NatV w' vs ((ns.take i).foldl (· + ·) 0)/\Fresh w vs) (λi _=>ns.length-i) 0 (.slice none 0 0) sB
  ⟨Nat.zero_le _,Ext.refl _,NatV.nil _,λad m c e=>by cases e⟩ ?_
 rintro i vs w1 ⟨hi,o,O,Z⟩;refine ρ ?_;refine ci (λG=>?_) (λG=>?_)
 .have C:i<ns.length:=by have:=oT G;omega
  clear G;refine ρ ?_;refine ix i (h.rd.ext o) om ?_;have u:us[i]?=some (us.getD i (.int .i64 0)):=by simp [List.getD,List.getElem?_eq_getElem (show i<us.length by omega)]
  refine ρ ?_;refine ld ((h.rd.ext o).cell u) ?_;refine ρ ?_;refine cl (Jjd O ((h.nat i C).ext o) (hsub i hi).len (hone _ (by simp [List.getD,List.getElem?_eq_getElem C])).len) ?_;rintro r w2 ⟨hr,a1,J⟩;refine ρ ?_;refine Jl (i+1) r sO ⟨C,o.trans J,?_,λad m c e=>nL o.size (a1 ad m c e)⟩ om;rw [Qy 0 C,List.foldl_append];exact hr
 have U:i=ns.length:=by have:=oF G;omega
 rw [U,List.take_length]at O;refine ρ ?_;exact Jj ⟨O,Z,o⟩
theorem Qth(v:V)(wt st:Value)(A1 A2:Option Addr)(n1 n2 c1 c2:Nat)(pl pr:Option Addr)(y z:Int)(h1:wt=.slice A1 n1 c1)(h2:st=.slice A2 n2 c2)(w:World): (Instr.build 233 #[(0,.agg (v.cells++[wt]).toArray),(1,.pointer pl),(2,.pointer pr),(3,.int .i64 y),(4,.int .i64 z),(5,st)]).run Tryz.prog w=.ok (.agg (v.cells++[wt,.pointer pl,.pointer pr,.int .i64 y,.int .i64 z,st]).toArray) w:=by
 subst h1;subst h2;kernel_rfl
theorem Qsl(v1 v2 v3:Value)(A1 A2 A3:Option Addr)(n1 n2 n3 c1 c2 c3:Nat)(h1:v1=.slice A1 n1 c1)(h2:v2=.slice A2 n2 c2)(h3:v3=.slice A3 n3 c3)(w:World): (Instr.buildSlice 312 3 #[(0,v1),(1,v2),(2,v3)]).run Tryz.prog w=.ok (.slice (some ⟨w.heap.size,0,none⟩) 3 3) (w.alloc (.cells [v1,v2,v3].toArray 29)):=by
 subst h1;subst h2;subst h3;kernel_rfl
theorem Yg{v:V}{x:Nat}(hl:TrV N w l pl)(hr:TrV N w r pr)(hw:NatX N w wt x)(hN:∀ k,N k->k<w.heap.size)(hb:Nb (Tr.node l v x r).sum)(hs:(Tr.node l v x r).sz<=1000000):
  Ret Tryz.prog 190 [pl,.agg (v.cells++[wt]).toArray,pr] w λu w'=>TrV N w' (.node l v x r) u/\Ext w w':=by
 obtain ⟨ql,rfl⟩:=hl.ptr;obtain ⟨qr,rfl⟩:=hr.ptr;refine Jz Tryz.func190 Tryz.ntmps190 rfl kr rfl ?_;refine ρ ?_;refine bx (cs:=v.cells++[wt]) ?_;intro w1 b a9 aj hB;refine ρ ?_;have a1:Ext w1 w1.drew:=(Ext.refl w1).drew;have C:=a9.trans a1;have a7:=hB.ext a1;have O:=hl.ext C;have J:=hr.ext C;have Z:=hw.ext C;have ag:=Tr.ht_le l;have af:=Tr.ht_le r;simp only [Tr.sz]at hs;refine dr [(0,0),(0,1),(0,2),(0,3),(0,5),(0,9),(0,12),(0,15),(0,17),(0,18),(0,19),(1,4),(1,6),(0,7),(0,8),(1,10),(0,11),(1,13),(0,14),(1,16),(1,20),(1,21),(1,22),(0,23),(1,24),(0,25)] kr ?_;refine ρd ?_;refine Qz (cs:=v.cells++[wt]) (λj u hu=>a7.at hu) ?_;refine ρd ?_;refine dld (a7.at (i:=3) rfl) ?_;refine ρd ?_;refine dcl (Ka O) ?_;rintro u2 w2 ⟨rfl,rfl⟩;refine ⟨Ext.refl _,?_⟩;refine ρd ?_;refine dcl (Ka J) ?_;rintro u2 w2 ⟨rfl,rfl⟩;refine ⟨Ext.refl _,?_⟩;refine ρd ?_;refine dcl (Jnn O) ?_
 rintro u2 w2 ⟨rfl,rfl⟩;refine ⟨Ext.refl _,?_⟩;refine ρd ?_;refine dcl (Jnn J) ?_;rintro u2 w2 ⟨rfl,rfl⟩;refine ⟨Ext.refl _,?_⟩;refine ρd ?_;refine dcl (Jqj O) ?_;rintro ul w2 ⟨a4,rfl⟩;refine ⟨Ext.refl _,?_⟩;refine ρd ?_;refine dcl (Jqj J) ?_;rintro ur w2 ⟨a3,rfl⟩;refine ⟨Ext.refl _,?_⟩;obtain ⟨A1,c1,e1,_⟩:=id a4.1;obtain ⟨A2,c2,e2,_⟩:=id Z.1;obtain ⟨A3,c3,e3,_⟩:=id a3.1;refine ρd ?_;refine dbsl (Qsl _ _ _ _ _ _ _ _ _ _ _ _ e1 e2 e3) ?_;intro w3 b3 G ai ae;have ab:NatsV w3 (some ⟨b3,0,none⟩) [ul,wt,ur] [l.sum,x,r.sum]:=by
  refine ⟨ae.rd (n:=3) rfl,rfl,λi hi=>?_⟩;match i,hi with
  | 0,_=>exact a4.1.ext G
  | 1,_=>exact Z.1.ext G
  | 2,_=>exact a3.1.ext G
 simp only [Tr.sum]at hb;refine ρd ?_;refine dcl (Qgw (us:=[ul,wt,ur]) ab (hb.le (by simp)) (by simp) (λi hi=>hb.le ?_) (λy hy=>hb.le ?_)) ?_
 .match i,hi with
  | 0,_=>simp
  | 1,_=>simp;omega
  | 2,_=>simp
  | 3,_=>simp
 .simp only [List.mem_cons,List.not_mem_nil,or_false]at hy;rcases hy with rfl|rfl|rfl<;>omega
 rintro st w4 ⟨a6,ad,U⟩;refine ⟨U,?_⟩;obtain ⟨A4,c4,e4,_⟩:=id a6;refine ρd ?_;refine dbld (Qth v wt st A2 A4 _ _ _ _ ql qr _ _ e2 e4) ?_;refine ρd ?_;refine dbx (cs:=v.cells++[wt,.pointer ql,.pointer qr,.int .i64 _,.int .i64 _,st]) ?_;intro w5 b5 a2 ah a8;refine ρd ?_;refine ρ ?_;have e5:(if (l.ht:Int)<(r.ht:Int) then (r.ht:Int) else (l.ht:Int))+1=((Tr.node l v x r).ht:Int):=by simp only [Tr.ht];split<;>omega
 have e6:(l.sz:Int)+1+r.sz=((Tr.node l v x r).sz:Int):=by simp only [Tr.sz];omega
 rw [e5,e6]at a8;have o:=(G.trans U).trans a2;have aa:=nL C.size G.size;have a5:NatX N w5 st (Tr.node l v x r).sum:=by
  have:=a6.ext a2;simp only [List.foldl_cons,List.foldl_nil,Nat.zero_add]at this;exact ad.x this λk hk=>nM (hN k hk) aa
 have ac:¬ N b5:=λhk=>by have:=hN _ hk;have:=U.size;omega
 exact Jj ⟨⟨b5,wt,_,_,st,rfl,⟨a8,ac⟩,Z.ext o,a5,O.ext o,J.ext o⟩,C.trans o⟩
end Go.Proofs.YtebcagekopgdhaaGreatDoor
