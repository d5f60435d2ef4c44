/- Part 12 of the proof: Chk, Chk2, Tri. -/
import Derived.Test.YtefpailelagbkaaGreatDoorJ11
set_option linter.unusedVariables false
set_option maxRecDepth 100000
set_option maxHeartbeats 40000000
namespace Go.Proofs.YtefpailelagbkaaGreatDoor
open Go.RowKit Pl Go.Wk
attribute [local irreducible] WC WL QX WD WDB WP
structure Atm where
 vars: List Int
 ar:Nat
 rows:List Row
abbrev V3:= Value×Value×Value
def V3.cells(t:V3): List Value:=[t.1,t.2.1,t.2.2]
def AtV(w:World)(t:V3)(a:Atm): Prop:=IntsV w t.1 a.vars/\t.2.1=.int .i64 (a.ar:Int)/\RowsV w t.2.2 a.rows
theorem AtV.ext{w w':World}{t:V3}{a:Atm}(h:AtV w t a)(hx:Ext w w'): AtV w' t a:=⟨h.1.ext hx,h.2.1,h.2.2.ext hx⟩
theorem AtV.rel{w:World}{t:V3}{a:Atm}(h:AtV w t a): RelV w (.agg #[t.2.1,t.2.2]) a.ar a.rows:=⟨t.2.2,by rw [h.2.1],h.2.2⟩
theorem AtV.one{w:World}{t:V3}{a:Atm}(h:AtV w t a): ∀ u∈t.cells,u.oneCell'=true:=by
 obtain ⟨⟨A,c,C,_⟩,o,⟨ps,B,d,_,j,_⟩⟩:=h;intro u i;simp only [V3.cells,List.mem_cons,List.not_mem_nil,or_false]at i;rcases i with rfl|rfl|rfl
 ·rw [C];rfl
 ·rw [o];rfl
 ·rw [j];rfl
def v30: V3:=(undef,undef,undef)
def a0: Atm:=⟨[],0,[]⟩
abbrev TA:= V3×Atm
def ta0: TA:=(v30,a0)
def atC(ts:List TA): List Value:=ts.flatMap λp=>p.1.cells
theorem Qlr: ∀ (r:List TA) (i j:Nat),i<r.length->j<3->(atC r)[i*3+j]?=(r.getD i ta0).1.cells[j]?
 | [],i,j,h,_=>by simp at h
 | v::r,0,j,_,hj=>by
  simp only [atC,List.flatMap_cons,Nat.zero_mul,Nat.zero_add,List.getD_cons_zero];rw [List.getElem?_append_left (by simp [V3.cells];omega)]
 | v::r,i+1,j,h,hj=>by
  have ih:=Qlr r i j (by simpa using h) hj;simp only [atC,List.flatMap_cons,List.getD_cons_succ]at ih ⊢;rw [List.getElem?_append_right (by simp [V3.cells];omega),<-ih];congr 1
  simp [V3.cells];omega
def AtsV(w:World)(v:Value)(ats:List Atm): Prop:=∃ (ts:List TA) (A:Option Addr) (c:Nat),ats=ts.map (·.2)/\v=.slice A ts.length c/\ts.length<=c/\ts.length<=1100000/\Rd w 3 A ts.length (atC ts)/\∀ p∈ts,AtV w p.1 p.2
theorem AtsV.ext{w w':World}{v:Value}{ats:List Atm}(h:AtsV w v ats)(hx:Ext w w'): AtsV w' v ats:=by
 obtain ⟨ts,A,c,G,D,C,u,o,j⟩:=h;exact ⟨ts,A,c,G,D,C,u,o.ext hx,λp i=>(j p i).ext hx⟩
theorem Jmx{w:World}{A:Option Addr}{n:Nat}{ts:List TA}(hR:Rd w 3 A n (atC ts))(hn:ts.length=n){i j:Nat}{u:Value}(hi:i<n)(hu:(ts.getD i ta0).1.cells[j]?=some u): w.cell? ((adr A (i*3)).add j)=some u:=by
 have o:j<3:=by have:=(List.getElem?_eq_some_iff.1 hu).1;simpa [V3.cells] using this
 rw [Jqr];exact hR.cell (by rw [Qlr ts i j (by omega) o];exact hu)
theorem Jhk{ts:List TA}{n:Nat}(hn:ts.length=n){i:Nat}(hi:i<n): ts.getD i ta0∈ts:=getD_mem' ta0 ts (hn.symm ▸ hi)
def ascB(zs:List Int): Prop:=∀ j,0<j->j<zs.length->zs.getD (j-1) 0<zs.getD j 0
def Xyg(n:Int)(a:Atm): Prop:=ascB a.vars/\(∀ v∈a.vars,0<=v/\v<n)/\a.vars.length=a.ar
def Xvk(n:Int)(ats:List Atm): Prop:=0<=n/\n<=32/\ats.length<=32/\(∀ a∈ats,Xyg n a)/\∀ v:Nat,(v:Int)<n->∃ a∈ats,(v:Int)∈a.vars
theorem Jrs{w:World}{A:Option Addr}{c:Nat}{bs:List Bool}{t:Bool}(hR:RdB w A bs)(hm:bs.length<=1100000): Ret Tryz.prog 164 [.slice A bs.length c,.bool t] w λu w'=>w'=w/\∃ z,u=.int .i64 z/\(0<=z↔t∈bs):=by
 refine Jjc Tryz.func164 Tryz.ntmps164 rfl (by kernel_rfl) rfl ?_;refine ρ ?_;refine Jqw (fun (k:Nat)=>[(0,.slice A bs.length c),(1,.bool t),(7,.int .i64 (bs.length:Int)),(8,.int .i64 (k:Int))]) (λk w'=>w'=w/\k<=bs.length/\t ∉ bs.take k) (λk=>bs.length-k) 0 sB ⟨rfl,Nat.zero_le _,by simp⟩ ?_;rintro k w' ⟨rfl,o,i⟩;refine ρ ?_;refine ci (λh=>?_) (λh=>?_)
 ·have lk:k<bs.length:=by have:=oT h;omega
  refine ρ ?_;refine ix k hR lk ?_;refine ρ ?_;refine ld (RdB.cell hR lk) ?_;refine eqb ?_;refine ρ ?_;refine ci (λh=>?_) (λh=>?_)
  ·refine ρ ?_;refine Jjr ⟨rfl,(k:Int),rfl,⟨λ_=>?_,λ_=>by omega⟩⟩;rw [beq_iff_eq.1 h];exact getD_mem' false bs lk
  ·refine ρ ?_;refine Jjx (k+1) sO ⟨rfl,by omega,?_⟩ (by omega);rw [Jjp false lk,List.mem_append,List.mem_singleton];rintro (j|j)
   ·exact i j
   ·rw [<-j]at h;simp at h
 ·refine ρ ?_;refine Jjr ⟨rfl,-1,rfl,⟨λe=>by omega,λe=>?_⟩⟩;rw [List.take_of_length_le (by have:=oF h;omega)]at i;exact absurd e i
theorem Jgl{w:World}{A:Option Addr}{c:Nat}{bs:List Bool}{t:Bool}(hR:RdB w A bs)(hm:bs.length<=1100000): Ret Tryz.prog 146 [.slice A bs.length c,.bool t] w λu w'=>w'=w/\∃ b:Bool,u=.bool b/\(b=true↔t∈bs):=by
 refine Jjc Tryz.func146 Tryz.ntmps146 rfl (by kernel_rfl) rfl ?_;refine ρ ?_;refine cl (Jrs hR hm) ?_;rintro u w' ⟨rfl,z,rfl,i⟩;refine ρ ?_;exact Jjr ⟨rfl,decide (0<=z),rfl,by rw [decide_eq_true_iff];exact i⟩
theorem Blk.at2{w:World}{g:Nat}{t:TypeId}{cs:List Value}(h:Blk w g t cs){i j:Nat}{v:Value}(hv:cs[i+j]?=some v): w.cell? ((⟨g,i,none⟩:Addr).add j)=some v:=by rw [Jzb,h.cell];exact hv
theorem Jcp: Jxd Tryz.prog 69=some (.agg #[.slice none 0 0,.int .i64 0,.slice none 0 0]):=by kernel_rfl
abbrev Jgm(w:World)(base:Nat)(v:Value)(bs:List Bool): Prop:=w.ownsRow base 4 1 v bs.length (bs.map Value.bool)
theorem Qlf{bs:List Bool}{i:Nat}(h:i<bs.length): (bs.map Value.bool)[i]?=some (.bool (bs.getD i false)):=by simp [List.getD,List.getElem?_eq_getElem h]
theorem Qjn(bs:List Bool)(i k:Nat)(x:Bool)(hi:i<bs.length): (bs.set i x).getD k false=if k=i then x else bs.getD k false:=Jbf false bs i k x hi
theorem Jcm{w:World}{v:Value}{n:Int}{ats:List Atm}(h:AtsV w v ats): Ret Tryz.prog 109 [.int .i64 n,v] w λu w'=>Ext w w'/\∃ e,u=.int .i64 e/\(e=0↔Xvk n ats):=by
 obtain ⟨ts,A,c,rfl,rfl,bo,bn,hR,bf⟩:=h;generalize hm:ts.length=m at *
 refine Jjc Tryz.func109 Tryz.ntmps109 rfl (by kernel_rfl) rfl ?_;refine ρ ?_;refine Jwr (fun (t:Bool)=>[(0,.int .i64 n),(1,.slice A m c),(16,.bool t)]) (λt w'=>w'=w/\(t=true↔¬ (0<=n/\n<=32))) ?_ ?_
 ·refine ki 13 (λh=>?_) (λh=>?_)
  ·refine ρ ?_;exact Jjn true sB ⟨rfl,by have:=oT h;simp;omega⟩
  ·refine ρ ?_;refine Jjn _ sB ⟨rfl,?_⟩;have:=oF h;rw [decide_eq_true_iff];omega
 rintro t w' ⟨rfl,ht⟩;refine ci (λh=>?_) (λh=>?_)
 ·refine ρ ?_;exact Jjr ⟨Ext.refl _,3,rfl,⟨λe=>(by cases e),λe=>absurd ⟨e.1,e.2.1⟩ (ht.1 h)⟩⟩
 have hn:0<=n/\n<=32:=by
  by_cases hz:0<=n/\n<=32
  ·exact hz
  ·rw [ht.2 hz]at h;cases h
 obtain ⟨bb,bm⟩:=hn;obtain ⟨N,rfl⟩:=Int.eq_ofNat_of_zero_le bb;clear h ht;refine ρ ?_;refine ci (λh=>?_) (λh=>?_)
 ·refine ρ ?_;refine Jjr ⟨Ext.refl _,12,rfl,⟨λe=>(by cases e),λe=>?_⟩⟩;have h1:=e.2.2.1;rw [List.length_map,hm]at h1;have:=oT h;omega
 have bl:m<=32:=by have:=oF h;omega
 clear h;refine ρ ?_;refine mkn EB N (by omega) (by unfold maxLen;omega) ?_;intro w1 O b8 aw hO;have av:Jgm w1 w'.heap.size (.slice O N N) (List.replicate N false):=by
  rw [Jgm,List.length_replicate,List.map_replicate];have e:(madeCells (Value.bool false).cells (N*1)).toList=List.replicate N (Value.bool false):=by rw [Nat.mul_one];exact Jlk _ _
  rw [e]at aw;exact aw
 refine ρ ?_;refine Jqb (fun (i:Nat) (J:List Bool)=>[(0,.int .i64 (N:Int)),(5,.slice O N N),(22,.slice A m c),(23,.int .i64 (m:Int)),(24,.int .i64 (i:Int))])
  (λi J w2=>i<=m/\Ext w' w2/\J.length=N/\Jgm w2 w'.heap.size (.slice O N N) J/\(∀ j,j<i->Xyg N (ts.getD j ta0).2)/\∀ v:Nat,v<N->(J.getD v false=true↔∃ j,j<i/\(v:Int)∈(ts.getD j ta0).2.vars)) (λi _=>m-i) 0 (List.replicate N false) sB
  ⟨Nat.zero_le _,b8,by simp,av,λj hj=>by omega,λv hv=>⟨λe=>by simp [List.getD,hv]at e,λ⟨j,hj,_⟩=>by omega⟩⟩ ?_
 rintro i J w2 ⟨hi,ab,Z,ag,ap,o⟩;refine ρ ?_;refine ci (λh=>?_) (λh=>?_)
 ·have li:i<m:=by have:=oT h;omega
  have b3:=hR.ext ab;obtain ⟨t1,t2,t3,a,hp⟩:∃ t1 t2 t3 a,ts.getD i ta0=((t1,t2,t3),a):=⟨_,_,_,_,rfl⟩;have aj:AtV w' (t1,t2,t3) a:=by have:=bf _ (Jhk hm li);rw [hp]at this;exact this
  have ax:a∈ts.map (·.2):=List.mem_map.2 ⟨_,Jhk hm li,by rw [hp]⟩
  clear h;obtain ⟨⟨D,d,e1,hd,bq,b1⟩,e2,af⟩:=id aj;simp only at e1 e2;subst e1;subst e2;obtain ⟨ps,G,gc,_,ao,_⟩:=id af;simp only at ao;subst ao;refine ρ ?_;refine ixq 3 i b3 li ?_;refine ρ ?_;refine lds (cs:=[.slice D a.vars.length d,.int .i64 (a.ar:Int),.slice G ps.length gc]) (λj u hu=>Jmx b3 hm li (by rw [hp];exact hu)) ?_;refine ρ ?_;refine alc Jcp ?_;intro w3 b b7 hb hB;refine ρ ?_;refine stb hB ?_ aj.one;intro w4 ai bp b6;have ad:Ext w2 w4:=b6 w2 b7 hb;have a5:=ab.trans ad;have au:=Jjb ag ad;have a1:¬ Xyg N a->¬ Xvk N (ts.map (·.2)):=λh1 h2=>h1 (h2.2.2.2.1 a ax)
  refine ρ ?_;refine Jqw (fun (k:Nat)=>[(0,.int .i64 (N:Int)),(5,.slice O N N),(22,.slice A m c),(23,.int .i64 (m:Int)),(24,.int .i64 (i:Int)),(7,.pointer (some ⟨b,0,none⟩)),(8,.int .i64 (k:Int))])
   (λk w5=>Ext w4 w5/\1<=k/\(k<=a.vars.length∨k=1)/\∀ j,0<j->j<k->a.vars.getD (j-1) 0<a.vars.getD j 0) (λk=>a.vars.length-k) 1 sB ⟨Ext.refl _,Nat.le_refl _,.inr rfl,λj h1 h2=>by omega⟩ ?_
  rintro k w5 ⟨aa,be,bd,a7⟩;have ac:=ai.ext aa;refine ρ ?_;refine ld (ac.at (i:=0) rfl) ?_;refine ρ ?_;refine ci (λh=>?_) (λh=>?_)
  ·have lk:k<a.vars.length:=by have:=oT h;omega
   have ak:k-1<a.vars.length:=by omega
   clear h;refine ρ ?_;refine dr [(0,0),(0,1),(0,2),(0,3),(0,4),(0,5),(0,6),(0,7),(0,8),(0,9),(0,10),(0,11)] (by kernel_rfl) ?_;have a2:=aa.drew;have a4:=ai.ext a2;have C:=b1.ext (a5.trans a2);refine ρd ?_;refine dld (a4.at (i:=0) rfl) ?_;refine ρd ?_;refine dix (k-1) C ak ?_;refine ρd ?_;refine dld (C.cell (Jcx ak)) ?_;refine ρd ?_;refine dld (a4.at (i:=0) rfl) ?_;refine ρd ?_;refine dix k C lk ?_;refine ρd ?_;refine dld (C.cell (Jcx lk)) ?_;refine ρd ?_;refine ρ ?_;refine ci (λh=>?_) (λh=>?_)
   ·refine ρ ?_;refine Jjr ⟨a5.trans a2,16,rfl,⟨λe=>(by cases e),λe=>absurd e (a1 λh1=>?_)⟩⟩;have:=h1.1 k (by omega) lk;have:=oT h;omega
   ·refine ρ ?_;refine Jjx (k+1) sO ⟨a2,by omega,by omega,λj h1 h2=>?_⟩ (by omega);by_cases U:j=k
    ·subst U;have:=oF h;omega
    ·exact a7 j h1 (by omega)
  have ah:ascB a.vars:=λj h1 h2=>a7 j h1 (by have:=oF h;omega);clear h a7 be bd;have an:=a5.trans aa;have aq:=Jjb au aa;refine ρ ?_;refine ld (ac.at (i:=0) rfl) ?_;refine ρ ?_;refine Jqb (fun (q:Nat) (J:List Bool)=>[(0,.int .i64 (N:Int)),(5,.slice O N N),(22,.slice A m c),(23,.int .i64 (m:Int)),(24,.int .i64 (i:Int)),(7,.pointer (some ⟨b,0,none⟩)),(48,.slice D a.vars.length d),(49,.int .i64 (a.vars.length:Int)),(50,.int .i64 (q:Int))])
   (λq J w6=>q<=a.vars.length/\Ext w' w6/\J.length=N/\Jgm w6 w'.heap.size (.slice O N N) J/\Blk w6 b 69 [.slice D a.vars.length d,.int .i64 (a.ar:Int),.slice G ps.length gc]/\(∀ j,j<q->0<=a.vars.getD j 0/\a.vars.getD j 0<N)/\∀ v:Nat,v<N->(J.getD v false=true↔(∃ j,j<i/\(v:Int)∈(ts.getD j ta0).2.vars)∨∃ j,j<q/\a.vars.getD j 0=(v:Int))) (λq _=>a.vars.length-q) 0 J sB
   ⟨Nat.zero_le _,an,Z,aq,ac,λj hj=>by omega,λv hv=>⟨λe=>.inl ((o v hv).1 e),λe=>(o v hv).2 (e.elim id λ⟨j,hj,_⟩=>by omega)⟩⟩ ?_
  clear ag au aq ac ai o Z;rintro q J w6 ⟨hq,a9,Z,a3,a4,az,o⟩;refine ρ ?_;refine ci (λh=>?_) (λh=>?_)
  ·have lq:q<a.vars.length:=by have:=oT h;omega
   have C:=b1.ext a9;have b9:a.vars.getD q 0∈a.vars:=getD_mem' 0 _ lq;clear h;refine ρ ?_;refine ix q C lq ?_;refine ρ ?_;refine ld (C.cell (Jcx lq)) ?_;refine ρ ?_;generalize hz:a.vars.getD q 0=z at *
   refine Jwr (fun (t:Bool)=>[(0,.int .i64 (N:Int)),(5,.slice O N N),(22,.slice A m c),(23,.int .i64 (m:Int)),(24,.int .i64 (i:Int)),(7,.pointer (some ⟨b,0,none⟩)),(48,.slice D a.vars.length d),(49,.int .i64 (a.vars.length:Int)),(50,.int .i64 (q:Int)),(10,.int .i64 z),(60,.bool t)]) (λt w7=>w7=w6/\(t=true↔¬ (0<=z/\z<N))) ?_ ?_
   ·refine ki 56 (λh=>?_) (λh=>?_)
    ·refine ρ ?_;exact Jjn true sB ⟨rfl,by have:=oT h;simp;omega⟩
    ·refine ρ ?_;refine Jjn _ sB ⟨rfl,?_⟩;have:=oF h;rw [decide_eq_true_iff];omega
   rintro t w7 ⟨rfl,ht⟩;refine ci (λh=>?_) (λh=>?_)
   ·refine ρ ?_;exact Jjr ⟨a9,3,rfl,⟨λe=>(by cases e),λe=>absurd e (a1 λh1=>ht.1 h (h1.2.1 z b9))⟩⟩
   have am:0<=z/\z<N:=by
    by_cases hz:0<=z/\z<N
    ·exact hz
    ·rw [ht.2 hz]at h;cases h
   obtain ⟨x,rfl⟩:=Int.eq_ofNat_of_zero_le am.1;have lx:x<N:=by omega
   rw [Jgm,Z]at a3;obtain ⟨s1,s2,s3,s4,s5⟩:=Jqj a3 (q:=x) (by omega) (.bool true);refine ρ ?_;refine ix x (Rd.own a3) lx ?_;refine ρ ?_;refine sto (s1.trans (Qlf (by omega))) s2 ?_;refine ρ ?_;refine Jjm (q+1) (J.set x true) sO ⟨by omega,Jjk a9 s5 (λk hk=>by
    obtain ⟨_,_,_,_,hf⟩:=Jjd a3;exact (hf k hk).1),by simpa using Z,?_,a4.grown s5 (a4.ne_own a3 rfl),λj hj=>?_,λv hv=>?_⟩ (by omega)
   ·rw [Jgm,List.length_set,Z,List.map_set];exact s3
   ·by_cases U:j=q
    ·subst U;rw [hz];exact am
    ·exact az j (by omega)
   ·rw [Qjn _ _ _ _ (by omega)];by_cases ev:v=x
    ·subst ev;rw [if_pos rfl];exact ⟨λ_=>.inr ⟨q,by omega,hz⟩,λ_=>rfl⟩
    ·rw [if_neg ev,o v hv];constructor
     ·rintro (h'|⟨j,hj,U⟩)
      ·exact .inl h'
      ·exact .inr ⟨j,by omega,U⟩
     ·rintro (h'|⟨j,hj,U⟩)
      ·exact .inl h'
      ·by_cases e2:j=q
       ·subst e2;rw [hz]at U;omega
       ·exact .inr ⟨j,by omega,U⟩
  ·have eq:q=a.vars.length:=by have:=oF h;omega
   clear h;have ay:∀ v∈a.vars,0<=v/\v<N:=λv hv=>by
    obtain ⟨j,hj,rfl⟩:=List.getElem_of_mem hv;have:=az j (by omega);rw [Jjh 0 _ hj]at this;exact this
   refine ρ ?_;refine dr [(0,0),(0,1),(0,2),(0,3),(0,4),(1,5),(0,6)] (by kernel_rfl) ?_;have a6:=a9.drew;have b4:=a4.ext (Ext.refl w6).drew;have bi:=aj.ext a6;refine ρd ?_;refine dld (b4.at (i:=0) rfl) ?_;refine ρd ?_;refine Jws (cs:=[.int .i64 (a.ar:Int),.slice G ps.length gc]) (λj u hu=>Blk.at2 b4 (i:=0+1) (by rw [Nat.add_comm];simpa using hu)) ?_;refine ρd ?_;refine dcl (Jyh bi.rel) ?_;rintro u w8 ⟨rfl,a8⟩;refine ⟨a8,?_⟩;refine ρd ?_;refine ρ ?_;refine ci (λh=>?_) (λh=>?_)
   ·refine ρ ?_;refine Jjr ⟨a6.trans a8,6,rfl,⟨λe=>(by cases e),λe=>absurd e (a1 λh1=>?_)⟩⟩;have:=Jwp h;have:=h1.2.2;omega
   ·refine ρ ?_;have bg:a.vars.length=a.ar:=by have:=Jwq h;omega
    refine Jjm (i+1) J sO ⟨by omega,a6.trans a8,Z,Jjb (Jjb a3 (Ext.refl w6).drew) a8,λj hj=>?_,λv hv=>?_⟩ (by omega)
    ·by_cases U:j=i
     ·subst U;rw [hp];exact ⟨ah,ay,bg⟩
     ·exact ap j (by omega)
    ·rw [o v hv];constructor
     ·rintro (⟨j,hj,U⟩|⟨j,hj,U⟩)
      ·exact ⟨j,by omega,U⟩
      ·refine ⟨i,by omega,?_⟩;rw [hp,<-U];exact getD_mem' 0 a.vars (by omega)
     ·rintro ⟨j,hj,U⟩;by_cases e2:j=i
      ·subst e2;have bj:(v:Int)∈a.vars:=by rw [hp]at U;exact U
       obtain ⟨y,hy,ey⟩:=List.getElem_of_mem bj;exact .inr ⟨y,by omega,by rw [Jjh 0 _ hy];exact ey⟩
      ·exact .inl ⟨j,by omega,U⟩
 ·have ei:i=m:=by have:=oF h;omega
  clear h;subst Z;have bh:RdB w2 O J:=Rd.own ag;have b2:∀ a∈ts.map (·.2),Xyg J.length a:=λa ha=>by
   obtain ⟨p,hp,rfl⟩:=List.mem_map.1 ha;obtain ⟨j,hj,rfl⟩:=List.getElem_of_mem hp;have:=ap j (by omega);rw [Jjh ta0 _ hj]at this;exact this
  refine ρ ?_;refine cl (Jgl bh (by omega)) ?_;rintro u w3 ⟨rfl,t,rfl,ht⟩;refine ρ ?_;refine ci (λh=>?_) (λh=>?_)
  ·refine ρ ?_;refine Jjr ⟨ab,22,rfl,⟨λe=>(by cases e),λe=>?_⟩⟩;obtain ⟨x,hx,ex⟩:=List.getElem_of_mem (ht.1 h);obtain ⟨a,ha,b5⟩:=e.2.2.2.2 x (by omega);obtain ⟨p,hp,rfl⟩:=List.mem_map.1 ha;obtain ⟨j,hj,rfl⟩:=List.getElem_of_mem hp;have:=(o x (by omega)).2 ⟨j,by omega,by rw [Jjh ta0 _ hj];exact b5⟩;rw [Jjh false J hx,ex]at this;cases this
  ·refine ρ ?_;refine Jjr ⟨ab,0,rfl,⟨λ_=>⟨by omega,by omega,by rw [List.length_map];omega,b2,λv hv=>?_⟩,λ_=>rfl⟩⟩;have ba:v<J.length:=by omega
   have ae:J.getD v false=true:=by
    cases hc:J.getD v false with
    | true=>rfl
    | false=>
     rw [Jjh false J (by omega)]at hc;have:false∈J:=by rw [<-hc];exact List.getElem_mem _
     rw [ht.2 this]at h;cases h
   obtain ⟨j,hj,bc⟩:=(o v ba).1 ae;exact ⟨_,List.mem_map.2 ⟨_,Jhk hm (by omega),rfl⟩,bc⟩
open Go.RowKit Pl Go.Wk
structure Inp where
 n: Int
 free:Int
 desc:List Bool
 perm:List Int
 ats:List Atm
def InC(w:World)(i:Inp)(cs:List Value): Prop:=∃ vd vp va,cs=[.int .i64 i.n,.int .i64 i.free,vd,vp,va]/\BoolsV w vd i.desc/\IntsV w vp i.perm/\AtsV w va i.ats
theorem InC.ext{w w':World}{i:Inp}{cs:List Value}(h:InC w i cs)(hx:Ext w w'): InC w' i cs:=by
 obtain ⟨o,j,u,e,G,D,C⟩:=h;exact ⟨o,j,u,e,G.ext hx,D.ext hx,C.ext hx⟩
def InV(w:World)(v:Value)(i:Inp): Prop:=∃ cs,v=.agg cs.toArray/\InC w i cs
theorem InV.ext{w w':World}{v:Value}{i:Inp}(h:InV w v i)(hx:Ext w w'): InV w' v i:=by
 obtain ⟨cs,e,h⟩:=h;exact ⟨cs,e,h.ext hx⟩
def Xxx(i:Inp): Prop:=0<=i.n/\i.n<=32/\0<=i.free/\i.free<=i.n/\(i.desc.length:Int)=i.free/\(i.perm.length:Int)=i.n-i.free/\(∀ v∈i.perm,i.free<=v/\v<i.n)/\i.perm.Nodup/\Xvk i.n i.ats
theorem Jfz{w:World}{v:Value}{inp:Inp}(h:InV w v inp)(hn64:-9223372036854775808<=inp.n/\inp.n<=9223372036854775807)(hf64:-9223372036854775808<=inp.free/\inp.free<=9223372036854775807): Ret Tryz.prog 73 [v] w λu w'=>Ext w w'/\∃ e,u=.int .i64 e/\(e=0↔Xxx inp):=by
 obtain ⟨_,rfl,vd,vp,va,rfl,ae,ad,aa⟩:=h;obtain ⟨n,free,Z,perm,ats⟩:=inp;simp only at ae ad aa hn64 hf64 ⊢;obtain ⟨D,dc,rfl,b2,b1,az⟩:=id ae;obtain ⟨G,gc,rfl,ax,aw,ao⟩:=id ad;obtain ⟨ts,A,c,_,rfl,_⟩:=id aa;refine Jjc Tryz.func73 Tryz.ntmps73 rfl (by kernel_rfl) rfl ?_;refine ρ ?_;refine bx ?_;intro w1 b a9 hb J;refine ρ ?_;refine Jwr (fun (t:Bool)=>[(1,.pointer (some ⟨b,0,none⟩)),(25,.bool t)]) (λt w'=>w'=w1/\(t=true↔¬ (0<=n/\n<=32/\0<=free/\free<=n))) ?_ ?_
 ·refine ld (J.at (i:=0) rfl) ?_;refine ρ ?_;refine ki 9 (λh=>?_) (λh=>?_)
  ·have:=oT h;refine ρ ?_;exact Jjn true sB ⟨rfl,by simp;omega⟩
  have h1:=oF h;refine ρ ?_;refine ld (J.at (i:=0) rfl) ?_;refine ρ ?_;refine ki 14 (λh=>?_) (λh=>?_)
  ·have:=oT h;refine ρ ?_;exact Jjn true sB ⟨rfl,by simp;omega⟩
  have h2:=oF h;refine ρ ?_;refine ld (J.at (i:=1) rfl) ?_;refine ρ ?_;refine ki 19 (λh=>?_) (λh=>?_)
  ·have:=oT h;refine ρ ?_;exact Jjn true sB ⟨rfl,by simp;omega⟩
  have h3:=oF h;refine ρ ?_;refine ld (J.at (i:=1) rfl) ?_;refine ρ ?_;refine ld (J.at (i:=0) rfl) ?_;refine ρ ?_;refine Jjn _ sB ⟨rfl,?_⟩;rw [decide_eq_true_iff];omega
 rintro t w' ⟨rfl,ht⟩;refine ci (λh=>?_) (λh=>?_)
 ·refine ρ ?_;exact Jjr ⟨a9,3,rfl,⟨λe=>(by cases e),λe=>absurd ⟨e.1,e.2.1,e.2.2.1,e.2.2.2.1⟩ (ht.1 h)⟩⟩
 have hn:0<=n/\n<=32/\0<=free/\free<=n:=by
  by_cases hz:0<=n/\n<=32/\0<=free/\free<=n
  ·exact hz
  ·rw [ht.2 hz]at h;cases h
 obtain ⟨an,av,ap,ay⟩:=hn;obtain ⟨N,rfl⟩:=Int.eq_ofNat_of_zero_le an;obtain ⟨F,rfl⟩:=Int.eq_ofNat_of_zero_le ap;clear h ht;refine ρ ?_;refine ld (J.at (i:=2) rfl) ?_;refine ρ ?_;refine ld (J.at (i:=1) rfl) ?_;refine ρ ?_;refine Jwr (fun (t:Bool)=>[(1,.pointer (some ⟨b,0,none⟩)),(42,.bool t)]) (λt w2=>w2=w'/\(t=true↔¬ (Z.length=F/\perm.length+F=N))) ?_ ?_
 ·refine ki 32 (λh=>?_) (λh=>?_)
  ·have:=Jwp h;refine ρ ?_;exact Jjn true sB ⟨rfl,by simp;omega⟩
  have h1:=Jwq h;refine ρ ?_;refine ld (J.at (i:=3) rfl) ?_;refine ρ ?_;refine ld (J.at (i:=0) rfl) ?_;refine ρ ?_;refine ld (J.at (i:=1) rfl) ?_;refine ρ ?_;refine Jjn _ sB ⟨rfl,?_⟩;rw [bne_iff_ne];omega
 rintro t2 w2 ⟨rfl,ht⟩;refine ci (λh=>?_) (λh=>?_)
 ·refine ρ ?_;refine Jjr ⟨a9,1,rfl,⟨λe=>(by cases e),λe=>absurd ?_ (ht.1 h)⟩⟩;have h5:=e.2.2.2.2.1;have h6:=e.2.2.2.2.2.1;simp only at h5 h6;omega
 have aq:Z.length=F/\perm.length+F=N:=by
  by_cases hz:Z.length=F/\perm.length+F=N
  ·exact hz
  ·rw [ht.2 hz]at h;cases h
 obtain ⟨b3,au⟩:=aq;clear h ht;refine ρ ?_;refine ld (J.at (i:=0) rfl) ?_;refine ρ ?_;refine mkn EB N (by omega) (by unfold maxLen;omega) ?_;intro w3 O ac ag hO;have af:Jgm w3 w2.heap.size (.slice O N N) (List.replicate N false):=by
  rw [Jgm,List.length_replicate,List.map_replicate];have e:(madeCells (Value.bool false).cells (N*1)).toList=List.replicate N (Value.bool false):=by rw [Nat.mul_one];exact Jlk _ _
  rw [e]at ag;exact ag
 refine ρ ?_;refine ld ((J.ext ac).at (i:=3) rfl) ?_;refine ρ ?_;refine Jqb (fun (i:Nat) (us:List Bool)=>[(1,.pointer (some ⟨b,0,none⟩)),(3,.slice O N N),(47,.slice G perm.length gc),(48,.int .i64 (perm.length:Int)),(49,.int .i64 (i:Int))])
  (λi us w4=>i<=perm.length/\Ext w2 w4/\us.length=N/\Jgm w4 w2.heap.size (.slice O N N) us/\(∀ v∈perm.take i,(F:Int)<=v/\v<N)/\(perm.take i).Nodup/\∀ v:Nat,v<N->(us.getD v false=true↔(v:Int)∈perm.take i)) (λi _=>perm.length-i) 0 (List.replicate N false) sB
  ⟨Nat.zero_le _,ac,by simp,af,λv hv=>by simp at hv,by simp,λv hv=>⟨λe=>by simp [List.getD,hv]at e,λe=>by simp at e⟩⟩ ?_
 rintro i us w4 ⟨hi,a8,a1,C,ab,U,a5⟩;have a4:=J.ext a8;have o:=a9.trans a8;refine ρ ?_;refine ci (λh=>?_) (λh=>?_)
 ·have li:i<perm.length:=by have:=oT h;omega
  have a6:=ao.ext o;clear h;have ai:perm.getD i 0∈perm:=getD_mem' 0 perm li;have a2:perm.take (i+1)=perm.take i++[perm.getD i 0]:=Jjp 0 li;have a3:perm.Nodup->perm.getD i 0 ∉ perm.take i:=λU hm=>by
   have h1:(perm.take (i+1)).Nodup:=U.sublist (List.take_sublist _ _);rw [a2,List.nodup_append]at h1;exact h1.2.2 _ hm _ (List.mem_singleton.2 rfl) rfl
  refine ρ ?_;refine ix i a6 li ?_;refine ρ ?_;refine ld (a6.cell (Jcx li)) ?_;refine ρ ?_;refine ld (a4.at (i:=1) rfl) ?_;refine ρ ?_;generalize hz:perm.getD i 0=z at *
  refine Jwr (fun (t:Bool)=>[(1,.pointer (some ⟨b,0,none⟩)),(3,.slice O N N),(47,.slice G perm.length gc),(48,.int .i64 (perm.length:Int)),(49,.int .i64 (i:Int)),(5,.int .i64 z),(68,.bool t)]) (λt w5=>w5=w4/\(t=true↔¬ ((F:Int)<=z/\z<N/\z ∉ perm.take i))) ?_ ?_
  ·refine ki 57 (λh=>?_) (λh=>?_)
   ·have:=oT h;refine ρ ?_;exact Jjn true sB ⟨rfl,by simp;omega⟩
   have h1:=oF h;refine ρ ?_;refine ld (a4.at (i:=0) rfl) ?_;refine ρ ?_;refine ki 63 (λh=>?_) (λh=>?_)
   ·have:=oT h;refine ρ ?_;exact Jjn true sB ⟨rfl,by simp;omega⟩
   have h2:=oF h;have aj:0<=z:=by omega
   obtain ⟨x,rfl⟩:=Int.eq_ofNat_of_zero_le aj;have lx:x<N:=by omega
   have ah:Rd w4 1 O N (us.map Value.bool):=by rw [Jgm,a1]at C;exact Rd.own C
   refine ρ ?_;refine ix x ah lx ?_;refine ρ ?_;have ak:x<us.length:=by omega
   refine ld (ah.cell (Qlf ak)) ?_;refine ρ ?_;refine Jjn _ sB ⟨rfl,?_⟩;rw [a5 x lx];constructor
   ·intro j ar;exact ar.2.2 j
   ·intro j;by_cases hm:(x:Int)∈perm.take i
    ·exact hm
    ·exact absurd ⟨by omega,by omega,hm⟩ j
  rintro t5 w5 ⟨rfl,ht⟩;refine ci (λh=>?_) (λh=>?_)
  ·refine ρ ?_;refine Jjr ⟨o,1,rfl,⟨λe=>(by cases e),λe=>absurd ?_ (ht.1 h)⟩⟩;have h7:=e.2.2.2.2.2.2.1 z ai;have h8:=a3 e.2.2.2.2.2.2.2.1;exact ⟨h7.1,h7.2,h8⟩
  have a7:(F:Int)<=z/\z<N/\z ∉ perm.take i:=by
   by_cases hz:(F:Int)<=z/\z<N/\z ∉ perm.take i
   ·exact hz
   ·rw [ht.2 hz]at h;cases h
  obtain ⟨x,rfl⟩:=Int.eq_ofNat_of_zero_le (show 0<=z by omega);have lx:x<N:=by omega
  rw [Jgm,a1]at C;obtain ⟨s1,s2,s3,s4,s5⟩:=Jqj C (q:=x) (by omega) (.bool true);refine ρ ?_;refine ix x (Rd.own C) lx ?_;refine ρ ?_;refine sto (s1.trans (Qlf (by omega))) s2 ?_;refine ρ ?_;refine Jjm (i+1) (us.set x true) sO ⟨by omega,Jjk a8 s5 (λk hk=>by
    obtain ⟨_,_,_,_,hf⟩:=Jjd C;exact (hf k hk).1),by simpa using a1,?_,λv hv=>?_,?_,λv hv=>?_⟩ (by omega)
  ·rw [Jgm,List.length_set,a1,List.map_set];exact s3
  ·rw [a2,List.mem_append,List.mem_singleton]at hv;rcases hv with j|j
   ·exact ab v j
   ·rw [j];exact ⟨a7.1,a7.2.1⟩
  ·rw [a2,List.nodup_append];refine ⟨U,by simp,λp hp q hq e=>?_⟩;rw [List.mem_singleton]at hq;subst hq;subst e;exact a7.2.2 hp
  ·rw [Qjn _ _ _ _ (by omega),a2,List.mem_append,List.mem_singleton];by_cases ev:v=x
   ·subst ev;rw [if_pos rfl];exact ⟨λ_=>.inr rfl,λ_=>rfl⟩
   ·rw [if_neg ev,a5 v hv];exact ⟨λj=>.inl j,λj=>j.elim id λe=>by omega⟩
 ·have ei:i=perm.length:=by have:=oF h;omega
  clear h;rw [ei,List.take_of_length_le (Nat.le_refl _)]at ab U;refine ρ ?_;refine ld (a4.at (i:=0) rfl) ?_;refine ρ ?_;refine ld (a4.at (i:=4) rfl) ?_;refine ρ ?_;refine cl (Jcm (aa.ext o)) ?_;rintro u w5 ⟨am,e,rfl,he⟩;refine ρ ?_;refine Jjr ⟨o.trans am,e,rfl,he.trans ⟨λj=>⟨by simp only;omega,by simp only;omega,by simp only;omega,by simp only;omega,by simp only;omega,by simp only;omega,ab,U,j⟩,λj=>j.2.2.2.2.2.2.2.2⟩⟩
end Go.Proofs.YtefpailelagbkaaGreatDoor
namespace Go.Proofs.YtefpailelagbkaaGreatDoor
open Pl
def pfx(rs:List Row)(l:Nat): List Row:=ddF (rs.map (List.take l))
theorem Qkx(rs:List Row)(x:Row)(l:Nat): pfx (rs++[x]) l=ddS (pfx rs l) (x.take l):=by
 unfold pfx;rw [List.map_append,List.map_cons,List.map_nil,Jrz]
theorem Qjw: ∀ (a b:Row) (l:Nat),Jxg a b []<=0->Jxg (a.take l) (b.take l) []<=0
 | _,_,0,_=>by simp [Jxg]
 | [],[],_+1,_=>by simp [Jxg]
 | [],_::_,_+1,_=>by simp [Jxg]
 | _::_,[],_+1,h=>by simp [Jxg]at h
 | x::a,y::b,l+1,h=>by
  simp only [List.take_succ_cons,Jxg,List.drop_nil]at h ⊢;by_cases e:cmpV x y=0
  ·rw [if_pos e]at h ⊢;exact Qjw a b l h
  ·rw [if_neg e]at h ⊢;exact h
theorem Qmv{rs:List Row}(h:Srt [] rs)(l:Nat): Srt [] (rs.map (List.take l)):=by
 unfold Srt at h ⊢;rw [List.pairwise_map];exact h.imp λi=>Qjw _ _ l i
theorem Jbw{rs:List Row}(h:Lt [] rs): Srt [] rs:=h.imp λi=>by omega
theorem Jld{rs:List Row}(h:Srt [] rs)(l:Nat): Jvg [] (rs.map (List.take l)) (pfx rs l):=Qhv (Qmv h l)
theorem Jdx{rs:List Row}(h:Srt [] rs){l:Nat}{q:Row}: q∈pfx rs l↔∃ r∈rs,r.take l=q:=by
 rw [(Jld h l).2,List.mem_map]
theorem Qnc{rs:List Row}{d:Nat}(h:Lt [] rs)(hl:∀ r∈rs,r.length=d): pfx rs d=rs:=by
 have e:rs.map (List.take d)=rs:=by
  conv=>rhs;rw [<-List.map_id rs]
  exact List.map_congr_left λr j=>by rw [List.take_of_length_le (by rw [hl r j];exact Nat.le_refl _)];rfl
 have i:=Jld (Jbw h) d;rw [e]at i;exact Jyt i.1 h i.2
theorem Qkz{rs:List Row}{x:Row}{l:Nat}: (pfx (rs++[x]) l).getLast?=some (x.take l):=by rw [Qkx];exact Qvb _ _
def shr: Row->Row->Nat
 | a::x,b::y=>if a=b then shr x y+1 else 0
 | _,_=>0
theorem Qqz(y:Row): shr [] y=0:=by cases y<;>rfl
theorem Qrx: ∀ x y:Row,shr x y<=x.length/\shr x y<=y.length
 | [],y=>by rw [Qqz];simp
 | _::_,[]=>by simp [shr]
 | a::x,b::y=>by
  have:=Qrx x y;simp only [shr,List.length_cons];split<;>omega
theorem Jpt: ∀ (x y:Row) (l:Nat),x.length=y.length->(x.take l=y.take l↔l<=shr x y∨x=y)
 | [],[],l,_=>by simp
 | [],_::_,_,h=>by simp at h
 | _::_,[],_,h=>by simp at h
 | a::x,b::y,0,_=>by simp
 | a::x,b::y,l+1,h=>by
  have ih:=Jpt x y l (by simpa using h);simp only [List.take_succ_cons,List.cons.injEq,shr];by_cases e:a=b
  ·rw [if_pos e,ih];constructor
   ·rintro ⟨_,h'|h'⟩
    ·exact .inl (by omega)
    ·exact .inr ⟨e,h'⟩
   ·rintro (h'|h')
    ·exact ⟨e,.inl (by omega)⟩
    ·exact ⟨e,.inr h'.2⟩
  ·rw [if_neg e];constructor
   ·rintro ⟨h',_⟩;exact absurd h' e
   ·rintro (h'|h')
    ·omega
    ·exact absurd h'.1 e
def lvl(rs:List Row)(l:Nat): Row:=(pfx rs (l+1)).map λq=>q.getD l V0
theorem Jfd(rs:List Row)(l:Nat): (lvl rs l).length=(pfx rs (l+1)).length:=by simp [lvl]
theorem Xqg{rs:List Row}{l i:Nat}(h:i<(pfx rs (l+1)).length): (lvl rs l).getD i V0=((pfx rs (l+1)).getD i []).getD l V0:=by
 rw [Jjh V0 _ (by rw [Jfd];exact h),Jjh [] _ h];simp [lvl]
def Fst(rs:List Row)(l:Nat)(f:List Nat): Prop:=f.length=(pfx rs (l+1)).length/\(∀ j,j<f.length->f.getD j 0<=(pfx rs (l+2)).length) /\
 ∀ j i,j<f.length->i<(pfx rs (l+2)).length->(((pfx rs (l+2)).getD i []).take (l+1)=(pfx rs (l+1)).getD j []↔f.getD j 0<=i/\(j+1<f.length->i<f.getD (j+1) 0))
def stp(rs:List Row)(x:Row): Nat:=match rs.getLast? with
 | some y=>shr y x
 | none=>0
theorem Jvm{rs:List Row}{x:Row}{d:Nat}(h:Lt [] (rs++[x]))(hl:∀ r∈rs++[x],r.length=d){l:Nat}(h0:0<l): pfx (rs++[x]) l=if l<=stp rs x then pfx rs l else pfx rs l++[x.take l]:=by
 rw [Qkx];rcases List.eq_nil_or_concat rs with rfl|⟨r,y,rfl⟩
 ·rw [if_neg (by simp [stp];omega)];rfl
 ·rw [List.concat_eq_append]at *;have G:(r++[y]).getLast?=some y:=by simp
  have j:Jxg y x []<0:=(List.pairwise_append.1 h).2.2 y (by simp) x (by simp);have u:y≠x:=λe=>by rw [e,Jxl]at j;omega
  have i:y.length=x.length:=by rw [hl y (by simp),hl x (by simp)]
  have o:stp (r++[y]) x=shr y x:=by simp [stp]
  rw [o,ddS,Qkz];by_cases e:y.take l=x.take l
  ·rw [if_pos (by rw [e]),if_pos (((Jpt y x l i).1 e).elim id λC=>absurd C u)]
  ·rw [if_neg (λD=>e (by injection D)),if_neg (λC=>e ((Jpt y x l i).2 (.inl C)))]
theorem Xjr{rs:List Row}{x:Row}{d:Nat}(h:Lt [] (rs++[x]))(hl:∀ r∈rs++[x],r.length=d){l:Nat}(h0:0<l)(hs:stp rs x<l): x.take l ∉ pfx rs l:=by
 have e:=Jvm h hl h0;rw [if_neg (by omega)]at e;have i:=(Jld (Jbw h) l).1;rw [e]at i;intro j;have:=(List.pairwise_append.1 i).2.2 _ j (x.take l) (by simp);rw [Jxl]at this;omega
theorem Qnq{l:List Row}(h:Lt [] l){i j:Nat}(hi:i<l.length)(hj:j<l.length)(e:l.getD i []=l.getD j []): i=j:=by
 rcases Nat.lt_trichotomy i j with h'|h'|h'
 ·have:=h.at h' hj;rw [e,Jxl]at this;omega
 ·exact h'
 ·have:=h.at h' hi;rw [e,Jxl]at this;omega
theorem Jks{α:Type}(z:α)(l:List α)(x:α)(k:Nat): (l++[x]).getD k z=if k<l.length then l.getD k z else if k=l.length then x else z:=by
 simp only [List.getD];by_cases h:k<l.length
 ·rw [if_pos h,List.getElem?_append_left h]
 ·rw [if_neg h,List.getElem?_append_right (by omega)];by_cases e:k=l.length
  ·rw [if_pos e,e,Nat.sub_self];rfl
  ·rw [if_neg e,List.getElem?_eq_none (by simp;omega)];rfl
theorem take_take'(q:Row)(l:Nat): (q.take (l+2)).take (l+1)=q.take (l+1):=by rw [List.take_take,Nat.min_eq_left (by omega)]
theorem Xkx{rs:List Row}(h:Srt [] rs){l i:Nat}(hi:i<(pfx rs (l+2)).length): ((pfx rs (l+2)).getD i []).take (l+1)∈pfx rs (l+1):=by
 obtain ⟨r,j,e⟩:=(Jdx h).1 (getD_mem' [] _ hi);rw [<-e,take_take'];exact (Jdx h).2 ⟨r,j,rfl⟩
theorem Fst.keep{rs:List Row}{x:Row}{d l:Nat}{f:List Nat}(hF:Fst rs l f)(h:Lt [] (rs++[x]))(hl:∀ r∈rs++[x],r.length=d)(hs:l+1<=stp rs x): Fst (rs++[x]) l f:=by
 obtain ⟨h1,D,h3⟩:=hF;have U:pfx (rs++[x]) (l+1)=pfx rs (l+1):=by rw [Jvm h hl (by omega),if_pos hs]
 have u:Lt [] rs:=(List.pairwise_append.1 h).1;have o:0<(pfx rs (l+1)).length/\(pfx rs (l+1)).getD ((pfx rs (l+1)).length-1) []=x.take (l+1):=by
  have Z:=Qkz (rs:=rs) (x:=x) (l:=l+1);rw [U,List.getLast?_eq_getElem?]at Z;have h6:=(List.getElem?_eq_some_iff.1 Z);obtain ⟨h7,h8⟩:=h6;exact ⟨by omega,by rw [Jjh [] _ h7,h8]⟩
 have G:Lt [] (pfx rs (l+1)):=(Jld (Jbw u) _).1;by_cases hs2:l+2<=stp rs x
 ·have O:pfx (rs++[x]) (l+2)=pfx rs (l+2):=by rw [Jvm h hl (by omega),if_pos hs2]
  unfold Fst;rw [U,O];exact ⟨h1,D,h3⟩
 ·have O:pfx (rs++[x]) (l+2)=pfx rs (l+2)++[x.take (l+2)]:=by rw [Jvm h hl (by omega),if_neg hs2]
  unfold Fst;rw [U,O];refine ⟨h1,λj C=>?_,λj i C hi=>?_⟩
  ·have:=D j C;rw [List.length_append];omega
  ·rw [List.length_append,List.length_singleton]at hi;rw [Jks];by_cases hi2:i<(pfx rs (l+2)).length
   ·rw [if_pos hi2];exact h3 j i C hi2
   ·rw [if_neg hi2,if_pos (by omega),take_take',<-o.2];have ei:i=(pfx rs (l+2)).length:=by omega
    constructor
    ·intro e;have J:=Qnq G (by omega) (by omega) e;exact ⟨by rw [ei];exact D j C,λh'=>by omega⟩
    ·rintro ⟨_,h'⟩;by_cases J:j+1<f.length
     ·have:=h' J;have:=D (j+1) J;omega
     ·congr 1;omega
theorem Fst.more{rs:List Row}{x:Row}{d l:Nat}{f:List Nat}(hF:Fst rs l f)(h:Lt [] (rs++[x]))(hl:∀ r∈rs++[x],r.length=d)(hs:stp rs x<=l): Fst (rs++[x]) l (f++[(pfx rs (l+2)).length]):=by
 obtain ⟨O,G,J⟩:=hF;have u:Lt [] rs:=(List.pairwise_append.1 h).1;have Z:pfx (rs++[x]) (l+1)=pfx rs (l+1)++[x.take (l+1)]:=by rw [Jvm h hl (by omega),if_neg (by omega)]
 have U:pfx (rs++[x]) (l+2)=pfx rs (l+2)++[x.take (l+2)]:=by rw [Jvm h hl (by omega),if_neg (by omega)]
 have hn:=Xjr h hl (l:=l+1) (by omega) (by omega);unfold Fst;rw [Z,U];refine ⟨by simp [O],λj C=>?_,λj i C hi=>?_⟩
 ·rw [List.length_append,List.length_singleton]at C;rw [Jks,List.length_append,List.length_singleton];by_cases hj2:j<f.length
  ·rw [if_pos hj2];have:=G j hj2;omega
  ·rw [if_neg hj2,if_pos (by omega)];omega
 ·rw [List.length_append,List.length_singleton]at hi C;rw [Jks [],Jks [],Jks 0,Jks 0,List.length_append,List.length_singleton];by_cases hj2:j<f.length<;>by_cases hi2:i<(pfx rs (l+2)).length
  ·rw [if_pos hi2,if_pos (show j<(pfx rs (l+1)).length by omega),if_pos hj2,J j i hj2 hi2];by_cases ej:j+1<f.length
   ·rw [if_pos ej];exact ⟨λo=>⟨o.1,λ_=>o.2 ej⟩,λo=>⟨o.1,λ_=>o.2 (by omega)⟩⟩
   ·rw [if_neg ej,if_pos (by omega)];exact ⟨λo=>⟨o.1,λ_=>hi2⟩,λo=>⟨o.1,λe=>absurd e ej⟩⟩
  ·rw [if_neg hi2,if_pos (show i=(pfx rs (l+2)).length by omega),if_pos (show j<(pfx rs (l+1)).length by omega),if_pos hj2,take_take'];constructor
   ·intro e;exact absurd (e ▸ getD_mem' [] _ (by omega)) hn
   ·rintro ⟨_,o⟩;have D:=o (by omega);by_cases ej:j+1<f.length
    ·rw [if_pos ej]at D;have:=G (j+1) ej;omega
    ·rw [if_neg ej,if_pos (by omega)]at D;omega
  ·rw [if_pos hi2,if_neg (show ¬ j<(pfx rs (l+1)).length by omega),if_pos (show j=(pfx rs (l+1)).length by omega),if_neg hj2,if_pos (show j=f.length by omega)];constructor
   ·intro e;exact absurd (e ▸ Xkx (Jbw u) hi2) hn
   ·rintro ⟨o,_⟩;omega
  ·rw [if_neg hi2,if_pos (show i=(pfx rs (l+2)).length by omega),if_neg (show ¬ j<(pfx rs (l+1)).length by omega),if_pos (show j=(pfx rs (l+1)).length by omega),if_neg hj2,if_pos (show j=f.length by omega),take_take'];exact ⟨λ_=>⟨by omega,λe=>by omega⟩,λ_=>rfl⟩
def Chl(rs:List Row)(l:Nat)(f:List Nat): Prop:=f.length=(pfx rs (l+1)).length+1/\(∀ j,j<f.length->f.getD j 0<=(pfx rs (l+2)).length) /\
 ∀ j i,j+1<f.length->i<(pfx rs (l+2)).length->(((pfx rs (l+2)).getD i []).take (l+1)=(pfx rs (l+1)).getD j []↔f.getD j 0<=i/\i<f.getD (j+1) 0)
theorem Fst.close{rs:List Row}{l:Nat}{f:List Nat}(hF:Fst rs l f): Chl rs l (f++[(pfx rs (l+2)).length]):=by
 obtain ⟨G,D,C⟩:=hF;refine ⟨by simp [G],λj u=>?_,λj i u hi=>?_⟩
 ·rw [List.length_append,List.length_singleton]at u;rw [Jks];by_cases hj2:j<f.length
  ·rw [if_pos hj2];exact D j hj2
  ·rw [if_neg hj2,if_pos (by omega)];exact Nat.le_refl _
 ·rw [List.length_append,List.length_singleton]at u;rw [Jks 0,Jks 0,if_pos (by omega),C j i (by omega) hi];by_cases ej:j+1<f.length
  ·rw [if_pos ej];exact ⟨λo=>⟨o.1,o.2 ej⟩,λo=>⟨o.1,λ_=>o.2⟩⟩
  ·rw [if_neg ej,if_pos (by omega)];exact ⟨λo=>⟨o.1,hi⟩,λo=>⟨o.1,λe=>absurd e ej⟩⟩
theorem Fst.nil(l:Nat): Fst [] l []:=⟨rfl,λj o=>by simp at o,λj i o=>by simp at o⟩
theorem Qwk{rs:List Row}{x:Row}{d l:Nat}(h:Lt [] (rs++[x]))(hl:∀ r∈rs++[x],r.length=d)(hd:l<d): lvl (rs++[x]) l=if l+1<=stp rs x then lvl rs l else lvl rs l++[x.getD l V0]:=by
 unfold lvl;rw [Jvm h hl (by omega)];split
 ·rfl
 ·rw [List.map_append];have:x.length=d:=hl x (by simp);simp [List.getD]
end Go.Proofs.YtefpailelagbkaaGreatDoor
