/- Part 24 of the proof: Mt, Mp. -/
import Derived.Test.YtefpailelagbkaaGreatDoorJ23
set_option linter.unusedVariables false
set_option maxRecDepth 100000
set_option maxHeartbeats 40000000
namespace Go.Proofs.YtefpailelagbkaaGreatDoor
open Go.RowKit Pl Go.Wk
attribute [local irreducible] WC WL QX WD WDB WP WN WG
def Xzb(w:World)(cs:List Value)(z:Row): Prop:=∃ v,cs=[v]/\RowV w v z
theorem Jnn: ∀ (ps:List (List Value×Row)) (w:World),(∀ p∈ps,Xzb w p.1 p.2)->∃ qs:List Pr,qs.map (·.2)=ps.map (·.2)/\qs.map (·.1)=Jxf ps/\qs.length=ps.length/\∀ q∈qs,RowV w q.1 q.2
 | [],w,_=>⟨[],rfl,rfl,rfl,λq hq=>by cases hq⟩
 | p::ps,w,h=>by
  obtain ⟨qs,h1,h2,h3,h4⟩:=Jnn ps w λq hq=>h q (List.mem_cons_of_mem _ hq);obtain ⟨v,e,hr⟩:=h p (mC ..);refine ⟨(v,p.2)::qs,by simp [h1],?_,by simp [h3],λq hq=>?_⟩
  ·simp only [Jxf,List.flatMap_cons,List.map_cons,e]at h2 ⊢;rw [h2];rfl
  ·rcases List.mem_cons.1 hq with rfl|hq
   ·exact hr
   ·exact h4 q hq
theorem Qyk{w:World}{v:Value}{ls:List Row}(h:GV 1 Xzb w v ls): RowsV w v ls:=by
 obtain ⟨ps,A,c,e,u,o,j,i,D⟩:=h;obtain ⟨C,Z,U,O,J⟩:=Jnn ps w λp G=>(D p G).2;rw [<-O]at u o j i;exact ⟨C,A,c,by rw [e,Z],u,o,j,by rw [U];exact i,J⟩
def YM(b:Nat)(base:Nat)(l:List Row)(w:World): Prop:=b<base/\∃ v,Blk w b 35 [v]/\OwnG 40 1 Xzb w base v l
theorem Qnm{s b:Nat}(hb:b<s): YZ s (.func (.func 157) #[] #[.pointer (some ⟨b,0,none⟩)]) (λk=>k=b) (YM b):=by
 refine ⟨λbase l w w' h hg=>?_,_,_,_,rfl,λbase l w w1 U z C h hx hr hl=>?_⟩
 ·obtain ⟨o,v,hB,hO⟩:=h;exact ⟨o,v,Jjw hB hg (λe=>by omega),hO.gr hg λk hk=>hk.2⟩
 obtain ⟨o,v,hB,hO⟩:=h;have J:=hB.ext hx;have D:=hO.ext hx;obtain ⟨RA,rn,rc,a6,_,_,_⟩:∃ A n c,U=.slice A n c/\True/\True/\True:=by obtain ⟨A,c,e,_⟩:=hr;exact ⟨A,_,c,e,trivial,trivial,trivial⟩
 refine Jjc Tryz.func157 Tryz.ntmps157 rfl (by kernel_rfl) rfl ?_;refine ρ ?_;refine ld (J.at (i:=0) rfl) ?_;refine ρ ?_;refine bsl (cs:=[U]) (λw=>Xvq U w RA rn rc a6) ?_;intro w2 b2 j af ab;obtain ⟨_,_,_,_,hf⟩:=D.form;have hΦ:Off (Jyz base v) w2 (λu=>Xzb u [U] z):=((hr.off.mono λk hk h=>by
  rcases h with h|h
  ·omega
  ·obtain ⟨_,_,_,_,a9⟩:=hO.form;exact (a9 k h).2).imp λu h=>⟨U,rfl,h⟩).ext j
 refine ρ ?_;refine apG ER (Φ:=Xzb) (D.ext j) ab rfl (λu hu=>by rw [List.mem_singleton.1 hu,a6];rfl) hΦ (by omega) (by omega) (nL C (hx.trans j).size) ?_;intro Z O a4 a3 ac;obtain ⟨A3,c3,e3,ae,ad⟩:=a4.form;have a1:GrN (λk=>k=b∨base<=k) w1 O:=(GrN.ext j).trans (GrN.by a3 λk ek=>.inr (hf k ek).1);have a7:some b≠v.ownBlock:=by
  obtain ⟨ps,_,ho,_⟩:=D;exact J.ne_own ho rfl
 have G:Blk O b 35 [v]:=(J.ext j).grown a3 a7;refine ρ ?_;refine sto (p:=⟨b,0,none⟩) (G.cell 0) (G.frozen _) ?_ (hv:=by rw [e3];rfl);have a5:=G.set 0 Z;have a2:GrN (λk=>k=b) O (O.setCell ⟨b,0,none⟩ Z):=GrN.set _ rfl;refine ρ ?_;have a8:(l++[z]).length=l.length+1:=by simp
 rw [a8]at e3;refine ld (v:=.slice A3 (l.length+1) c3) ((a5.at (i:=0) rfl).trans (by simp [e3])) ?_;refine ρ ?_;have aa:OwnG 40 1 Xzb (O.setCell ⟨b,0,none⟩ Z) base Z (l++[z]):=a4.gr a2 λk hk=>by omega
 refine Jjr ⟨?_,⟨o,Z,a5,aa⟩,a1.trans (a2.mono λk _ hk=>.inl hk)⟩;rw [decide_eq_true (show ((l.length+1:Nat):Int)<=65536 by omega)]
theorem Qpw(z:Int)(A:Option Addr)(n c:Nat)(w:World): (Instr.build 69 #[(1,.agg #[.int .i64 z,.slice A n c])]).run Tryz.prog w=.ok (.agg #[.slice none 0 0,.int .i64 z,.slice A n c]) w:=by kernel_rfl
theorem Qnn{w:World}{b:Nat}{Na:Option Addr}{nums:List Nat}{t:V3}{vars:List Nat}{ar:Nat}{rs:List Row}(hA:AtV w t ⟨nz vars,ar,rs⟩)(hB:Blk w b 23 [.slice Na nums.length nums.length])(hN:Rd w 1 Na nums.length (Jkg (nz nums)))(hlt:∀ v∈vars,v<nums.length)(hl:vars.length<=1000):
  Ret Tryz.prog 154 [.agg t.cells.toArray,.pointer (some ⟨b,0,none⟩)] w λu w'=>Ext w w'/\∃ v1,u=.agg #[v1,t.2.1,t.2.2]/\Off (λk=>k<w.heap.size) w' (λx=>IntsV x v1 (nz (vars.map λv=>nums.getD v 0))):=by
 obtain ⟨t1,t2,t3⟩:=t;obtain ⟨⟨D,d,e1,hd,be,an⟩,e2,ae⟩:=id hA;simp only at e1 e2;subst e1;subst e2;obtain ⟨ps,G,gc,_,ai,_⟩:=id ae;simp only at ai;subst ai;have bn:=Jqp vars;have am:Rd w 1 D (nz vars).length (Jkg (nz vars)):=an;clear an hd be;refine Jjc Tryz.func154 Tryz.ntmps154 rfl (by kernel_rfl) rfl ?_;refine ρ ?_;refine bx ?_;intro w1 b1 ab bt az;refine ρ ?_;refine alc Jcp ?_;intro w2 b2 a5 bs ax;refine ρ ?_;refine lds (cs:=[.int .i64 (ar:Int),.slice G ps.length gc]) ((az.ext a5).sub2 (i:=1) rfl rfl) ?_;refine ρ ?_;refine bld (Qpw _ _ _ _ _) ?_;refine ρ ?_;refine alc Jcp ?_;intro w3 b3 b8 bg bl;refine ρ ?_;refine stb (cs':=[.slice none 0 0,.int .i64 (ar:Int),.slice G ps.length gc]) bl ?_ (λu hu=>by
  simp only [List.mem_cons,List.not_mem_nil,or_false]at hu;rcases hu with rfl|rfl|rfl<;>rfl)
 intro w4 bj bq b7;have a3:Ext w2 w4:=b7 w2 b8 bg;have af:Ext w w4:=(ab.trans a5).trans a3;have ay:=(az.ext a5).ext a3;have aw:=ax.ext a3;refine ρ ?_;refine ld (ay.at (i:=0) rfl) ?_;refine ρ ?_;refine Jqb (fun (k:Nat) (vv:Value)=>[(1,.pointer (some ⟨b,0,none⟩)),(3,.pointer (some ⟨b2,0,none⟩)),(4,.pointer (some ⟨b3,0,none⟩)),(11,.slice D (nz vars).length d),(12,.int .i64 ((nz vars).length:Int)),(13,.int .i64 (k:Int))])
  (λk vv w'=>k<=vars.length/\Ext w w'/\Blk w' b2 69 [.slice none 0 0,.int .i64 0,.slice none 0 0]/\Blk w' b3 69 [vv,.int .i64 (ar:Int),.slice G ps.length gc]/\Jnh w' w.heap.size vv ((vars.take k).map λv=>nums.getD v 0)) (λk _=>vars.length-k) 0 (.slice none 0 0) sB
  ⟨Nat.zero_le _,af,aw,bj,Jxm _ _ _ _⟩ ?_
 rintro k vv w5 ⟨hk,a1,Z,aa,a2⟩;refine ρ ?_;refine ci (λh=>?_) (λh=>?_)
 ·have lk:k<vars.length:=by have:=oT h;omega
  clear h;have aq:=am.ext a1;have ag:=hlt _ (getD_mem' 0 _ lk);obtain ⟨own,J⟩:∃ own,own=vv.ownBlock:=⟨_,rfl⟩;have ak:∀ j,own=some j->w.heap.size<=j:=λj ej=>by
   obtain ⟨_,_,_,_,hf⟩:=Jjd a2;exact (hf j (by rw [<-J];exact ej)).1
  have bp:((vars.take k).map λv=>nums.getD v 0).length<=1000:=by simp;omega
  refine ρ ?_;refine ix k aq (by omega) ?_;refine ρ ?_;refine ld (aq.cell (Jzc lk)) ?_;refine ρ ?_;refine drN (one own) 8 [(0,0),(0,1),(0,2),(0,3),(0,4),(0,5),(1,6),(1,7),(0,8),(2,9)] (by kernel_rfl) ?_;have C:Ext w5 w5.drew:=(Ext.refl w5).drew;have O:=aa.ext C;have bh:=hB.ext (a1.trans C);have ap:=hN.ext (a1.trans C);have a6:=Jjb a2 C;have n3:¬ one own b3:=λe=>O.ne_own a6 rfl (by rw [<-J];exact e.symm);have a9:∀ {g:Nat},g<w.heap.size->¬ one own g:=λhg e=>by have:=ak _ e;omega
  refine ρn ?_;refine nld (Jjg (O.at (i:=0) rfl) n3) ?_;refine ρn ?_;refine nld (Jjg (bh.at (i:=0) rfl) (a9 hB.lt)) ?_;refine ρn ?_;refine nix (vars.getD k 0) ap ag ?_;refine ρn ?_;refine nld (λw' hg=>(Qqk ap hg (λh0 ad e=>a9 (by
   obtain ⟨bu,e',aj,_⟩:=hN.2 h0;rw [e]at e';injection e' with e';subst e';exact aj))).cell (Jzc ag)) ?_
  refine ρn ?_;refine nop ?_;refine bsl (bs1Int'' _) ?_;intro w6 b6 o br bi;refine ρ ?_;refine Jqt (GrN.ext o) ?_;refine nop ?_;refine apI (Jjb a6 o) bi (by omega) (((a1.trans C).trans o).size) ?_;intro a4 w7 ac a7 bo;refine ρ ?_;refine Jqt (GrN.by a7 λj ej=>by rw [<-J]at ej;exact ej) ?_;refine ρn ?_;refine Jzx ?_;have U:=(O.ext o).grown a7 ((O.ext o).ne_own (Jjb a6 o) rfl);have au:=((Z.ext C).ext o).grown a7 (((Z.ext C).ext o).ne_own (Jjb a6 o) rfl);have b5:Ext w w7:=Jjk ((a1.trans C).trans o) a7 (λj ej=>ak j (by rw [J];exact ej));have bm:a4.oneCell'=true:=by obtain ⟨_,_,e,_⟩:=Jjd ac;rw [e];rfl
  refine sto (p:=⟨b3,0,none⟩) (U.cell 0) (U.frozen _) ?_ (hv:=bm);have bc:GrN (λk=>k=b3) w7 (w7.setCell ⟨b3,0,none⟩ a4):=GrN.set _ rfl;have bf:w.heap.size<=b3:=by have:=(ab.trans a5).size;omega
  refine ω5 ?_;refine Jbv ?_;refine ρn ?_;refine ρ ?_;refine Jjm (k+1) a4 sO ⟨by omega,b5.setCell bf _,au.far (by simp only;have:=ax.lt;omega) _,U.set 0 a4,?_⟩ (by omega);rw [Jjp 0 lk,List.map_append];exact Jjq ac bc (λg eg e=>by subst e;exact U.ne_own ac rfl eg.symm)
 have bb:k=vars.length:=by have:=oF h;omega
 subst bb;clear h;rw [List.take_length]at a2;obtain ⟨VA,b4,a8,ah,b9⟩:=Jjd a2;rw [List.length_map]at a8 ah;refine ρ ?_;refine ldW aa ?_;refine ρ ?_;refine stb (cs':=[vv,.int .i64 (ar:Int),.slice G ps.length gc]) Z ?_ (λu hu=>by
  simp only [List.mem_cons,List.not_mem_nil,or_false]at hu;rcases hu with rfl|rfl|rfl
  ·rw [a8];rfl
  ·rfl
  ·rfl)
 intro w6 av bd o;refine ρ ?_;have ao:w.heap.size<=b2:=by have:=ab.size;omega
 refine Qhj av ⟨o w a1 ao,vv,rfl,?_⟩;have ba:Jnh w6 w.heap.size vv (vars.map λv=>nums.getD v 0):=Jjq a2 (GrN.by bd λg eg=>eg) (λg eg e=>by injection e with e;subst e;exact Z.ne_own a2 rfl eg.symm);refine (Jdz ba (λg eg hk=>by have:=(b9 g eg).1;omega)).imp λx h=>⟨VA,b4,by rw [Jqp,List.length_map];exact a8,by rw [Jqp,List.length_map];exact ah,by rw [Jqp,List.length_map];omega,?_⟩;rw [a8]at h;rw [Jqp,List.length_map];simp only [List.length_map]at h;exact Rd.own h
end Go.Proofs.YtefpailelagbkaaGreatDoor
namespace Go.Proofs.YtefpailelagbkaaGreatDoor
open Pl Go.Wk
def bk(s v:Nat): List Nat:=(List.range v).filter λu=>s.testBit u
theorem bk_mem{s v u:Nat}: u∈bk s v↔u<v/\s.testBit u=true:=by simp [bk]
theorem Jyp(s v:Nat): bk s (v+1)=bk s v++if s.testBit v then [v] else []:=by
 unfold bk;rw [List.range_succ,List.filter_append];congr 1
 by_cases h:s.testBit v=true
 ·rw [if_pos h];simp only [List.filter_cons,List.filter_nil,h,if_true]
 ·rw [if_neg h];simp only [List.filter_cons,List.filter_nil,h];rfl
theorem Jmr(s v:Nat): Jcb (bk s v):=List.Pairwise.sublist List.filter_sublist List.pairwise_lt_range
theorem Jvz(s v:Nat): (bk s v).length<=v:=by
 have:=List.length_filter_le (λu=>s.testBit u) (List.range v);rw [List.length_range]at this;exact this
theorem Xwn(s n:Nat): ∀ u,u<=n->lv (bk s n) u=(bk s u).length
 | 0,_=>by rw [Jll];rfl
 | u+1,h=>by
  have ih:=Xwn s n u (by omega);rw [Jyp,List.length_append,<-ih];by_cases hb:s.testBit u=true
  ·rw [if_pos hb,(Jwc (Jmr s n) (bk_mem.2 ⟨by omega,hb⟩)).1];rfl
  ·rw [if_neg hb,Jlm (λh'=>hb (bk_mem.1 h').2)];rfl
theorem Qxp{vs:List Nat}(ha:Jcb vs){k:Nat}(hk:k<vs.length): lv vs (vs.getD k 0)=k:=by
 obtain ⟨_,i,j⟩:=Jwc ha (getD_mem' 0 vs hk);exact Jtr (Qqf ha) i hk ((Jjh 0 vs i).symm.trans (j.trans (Jjh 0 vs hk)))
theorem Jbj{s n:Nat}(hs:s<2^n){u:Nat}(h:s.testBit u=true): u<n:=by
 rcases Nat.lt_or_ge u n with h'|h'
 ·exact h'
 ·rw [Nat.testBit_lt_two_pow (nM hs (Nat.pow_le_pow_right (n:=2) (by decide) h'))]at h;cases h
def Jng(s v:Nat): List Nat:=(List.range 32).map λu=>if u<v/\s.testBit u=true then (bk s u).length else 0
theorem Jbb(s v:Nat): (Jng s v).length=32:=by simp [Jng]
theorem Qnk{s u:Nat}(hu:u<32)(h:s.testBit u=true): (Jng s 32).getD u 0=lv (bk s 32) u:=by
 rw [Xwn s 32 u (by omega)];simp [Jng,List.getD,hu,h]
theorem Qwg{s v:Nat}(hv:v<32): Jng s (v+1)=if s.testBit v then (Jng s v).set v (bk s v).length else Jng s v:=by
 apply List.ext_getElem?
 intro i;by_cases h:s.testBit v=true
 ·rw [if_pos h,List.getElem?_set];by_cases e:v=i
  ·subst e;rw [if_pos rfl,if_pos (by rw [Jbb];exact hv)];simp [Jng,hv,h]
  ·rw [if_neg e];by_cases hi:i<32
   ·simp only [Jng,List.getElem?_map,List.getElem?_range hi,Option.map_some];congr 1
    have:(i<v+1/\s.testBit i=true)↔(i<v/\s.testBit i=true):=by constructor<;>(rintro ⟨a,b⟩;exact ⟨by omega,b⟩)
    simp only [this]
   ·simp [Jng,hi]
 ·rw [if_neg h];by_cases hi:i<32
  ·simp only [Jng,List.getElem?_map,List.getElem?_range hi,Option.map_some];congr 1
   have:(i<v+1/\s.testBit i=true)↔(i<v/\s.testBit i=true):=by
    constructor
    ·rintro ⟨a,b⟩;refine ⟨?_,b⟩;rcases Nat.lt_or_ge i v with h'|h'
     ·exact h'
     ·have:i=v:=by omega
      subst this;exact absurd b h
    ·rintro ⟨a,b⟩;exact ⟨by omega,b⟩
   simp only [this]
  ·simp [Jng,hi]
def rnm(vars:List Nat)(s:Nat): List Nat:=(inS vars s).map λv=>lv (bk s 32) v
theorem inS_mem{vars:List Nat}{s v:Nat}: v∈inS vars s↔v∈vars/\s.testBit v=true:=by simp [inS]
theorem Xqn{vars:List Nat}{s:Nat}(h:Jcb vars): Jcb (inS vars s):=List.Pairwise.sublist List.filter_sublist h
theorem Xqj{vs:List Nat}(ha:Jcb vs){u v:Nat}(hu:u∈vs)(h:u<v): lv vs u<lv vs v:=by
 have i:=(Jwc ha hu).1;have mono:∀ k,lv vs (u+1)<=lv vs (u+1+k):=by
  intro k;induction k with
  | zero=>exact Nat.le_refl _
  | succ k ih=>
   by_cases h:u+1+k∈vs
   ·have:=(Jwc ha h).1;rw [<-Nat.add_assoc,this];omega
   ·rw [<-Nat.add_assoc,Jlm h];exact ih
 have:=mono (v-(u+1));rw [show u+1+(v-(u+1))=v by omega]at this;omega
theorem Xjm{vars:List Nat}{s:Nat}(h:Jcb vars)(hl:∀ v∈vars,v<32): Jcb (rnm vars s):=by
 unfold rnm Jcb;rw [List.pairwise_map];refine List.Pairwise.imp_of_mem (fun {u v} hu hv huv=>?_) (Xqn (s:=s) h);exact Xqj (Jmr s 32) (bk_mem.2 ⟨hl u (inS_mem.1 hu).1,(inS_mem.1 hu).2⟩) huv
theorem Xkp{vars:List Nat}{s:Nat}(hl:∀ v∈vars,v<32){k:Nat}(hk:k∈rnm vars s): k<(bk s 32).length:=by
 obtain ⟨v,i,rfl⟩:=List.mem_map.1 hk;obtain ⟨o,j⟩:=inS_mem.1 i;exact (Jwc (Jmr s 32) (bk_mem.2 ⟨hl v o,j⟩)).2.1
theorem Qfr(vars:List Nat)(s:Nat): (rnm vars s).length=(inS vars s).length:=by simp [rnm]
def Qrj(m:Nat)(vars:Nat->List Nat)(rs:Nat->List Row)(s:Nat)(z:Row): Prop:=∀ i,i<m->∃ r∈rs i,∀ j,j<(vars i).length->s.testBit ((vars i).getD j 0)=true->r.getD j V0=z.getD ((vars i).getD j 0) V0
theorem Qzj{vars:List Nat}{s:Nat}{r z:Row}(hr:r.length=vars.length): ∀ k,k<=vars.length->(pmR (Jyb vars s k) r=pmR (inS (vars.take k) s) z↔∀ j,j<k->s.testBit (vars.getD j 0)=true->r.getD j V0=z.getD (vars.getD j 0) V0)
 | 0,_=>by simp [Jyb,inS,pmR]
 | k+1,h=>by
  have ih:=Qzj (s:=s) (z:=z) hr k (by omega);have hcl:=Jdj vars s k (by omega);rw [Jkc,Jdb (by omega)];by_cases hb:s.testBit (vars.getD k 0)=true
  ·rw [if_pos hb,if_pos hb];have e1:pmR (Jyb vars s k++[k]) r=pmR (Jyb vars s k) r++[r.getD k V0]:=by simp [pmR]
   have e2:pmR (inS (vars.take k) s++[vars.getD k 0]) z=pmR (inS (vars.take k) s) z++[z.getD (vars.getD k 0) V0]:=by simp [pmR]
   rw [e1,e2];constructor
   ·intro he j hj hbj;obtain ⟨h1,h2⟩:=List.append_inj he (by rw [Jxb,Jxb,hcl]);by_cases e:j=k
    ·subst e;injection h2
    ·exact ih.1 h1 j (by omega) hbj
   ·intro hall;rw [ih.2 λj hj=>hall j (by omega),hall k (by omega) hb]
  ·rw [if_neg hb,if_neg hb,List.append_nil,List.append_nil,ih];constructor
   ·intro hall j hj hbj;by_cases e:j=k
    ·subst e;exact absurd hbj hb
    ·exact hall j (by omega) hbj
   ·exact λhall j hj=>hall j (by omega)
theorem Xqf{n m:Nat}{vars:Nat->List Nat}{rs ms:Nat->List Row}{s:Nat}(hs:s<2^n)(hn:n<=32)(hlt:∀ i,i<m->∀ v∈vars i,v<n)(hlen:∀ i,i<m->∀ r∈rs i,r.length=(vars i).length)(hms:∀ i,i<m->∀ x,x∈ms i↔x∈(rs i).map (pmR (Jqx (vars i) s)))(x:Row):
  Jst (bk s 32).length m (λi=>rnm (vars i) s) ms x↔∃ z:Row,z.length=n/\x=pmR (bk s 32) z/\Qrj m vars rs s z:=by
 have key:∀ z:Row,∀ i,i<m->(pmR (rnm (vars i) s) (pmR (bk s 32) z)∈ms i↔∃ r∈rs i,∀ j,j<(vars i).length->s.testBit ((vars i).getD j 0)=true->r.getD j V0=z.getD ((vars i).getD j 0) V0):=λz i hi=>by
  have e:pmR (rnm (vars i) s) (pmR (bk s 32) z)=pmR (inS (vars i) s) z:=by
   unfold rnm pmR;rw [List.map_map];refine List.map_congr_left λv hv=>?_;obtain ⟨Z,C⟩:=inS_mem.1 hv;have O:v∈bk s 32:=bk_mem.2 ⟨by have:=hlt i hi v Z;omega,C⟩;obtain ⟨_,U,h5⟩:=Jwc (Jmr s 32) O;have:=Jrd (r:=z) U;unfold pmR at this;simp only [Function.comp];rw [this,h5]
  rw [e,hms i hi,List.mem_map];have hk:∀ r∈rs i,(pmR (Jqx (vars i) s) r=pmR (inS (vars i) s) z↔∀ j,j<(vars i).length->s.testBit ((vars i).getD j 0)=true->r.getD j V0=z.getD ((vars i).getD j 0) V0):=λr o=>by
   have:=Qzj (s:=s) (z:=z) (hlen i hi r o) (vars i).length (Nat.le_refl _);rw [List.take_length]at this;exact this
  constructor
  ·rintro ⟨r,o,e⟩;exact ⟨r,o,(hk r o).1 e⟩
  ·rintro ⟨r,o,h⟩;exact ⟨r,o,(hk r o).2 h⟩
 constructor
 ·rintro ⟨hl,hx⟩;let z:Row:=(List.range n).map λu=>x.getD (lv (bk s 32) u) V0
  have D:z.length=n:=by simp [z]
  have G:x=pmR (bk s 32) z:=by
   apply List.ext_getElem
   ·rw [Jxb];exact hl
   ·intro k Z C;rw [Jxb]at C;have hu:=bk_mem.1 (getD_mem' 0 _ C);have J:=Jbj hs hu.2;have h3:=Xkw (z:=z) C;rw [Jjh V0 _ (by rw [Jxb];exact C)]at h3;rw [h3];have U:z.getD ((bk s 32).getD k 0) V0=x.getD (lv (bk s 32) ((bk s 32).getD k 0)) V0:=by
     simp only [z,List.getD];rw [List.getElem?_map,List.getElem?_range (by simpa [List.getD] using J)];rfl
    rw [U,Qxp (Jmr s 32) C,Jjh V0 _ Z]
  refine ⟨z,D,G,λi hi=>?_⟩;have:=hx i hi;rw [G]at this;exact (key z i hi).1 this
 ·rintro ⟨z,D,rfl,O⟩;exact ⟨Jxb _ _,λi hi=>(key z i hi).2 (O i hi)⟩
end Go.Proofs.YtefpailelagbkaaGreatDoor
