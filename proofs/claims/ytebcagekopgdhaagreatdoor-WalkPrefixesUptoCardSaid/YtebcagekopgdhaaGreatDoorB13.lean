/- Part 13. -/
import Derived.Test.YtebcagekopgdhaaGreatDoorB12
set_option linter.unusedVariables false
set_option maxRecDepth 100000
set_option maxHeartbeats 40000000
namespace Go.Proofs.YtebcagekopgdhaaGreatDoor
open Go.RowKit Pl Go.Wk
attribute [local irreducible] WC WL QX WD WDB WP
structure Atm where
 vars: List Int
 ar:Nat
 rows:List Row
abbrev V3:= Value×Value×Value
def V3.cells(t:V3): List Value:=[t.1,t.2.1,t.2.2]
def AtV(w:World)(t:V3)(a:Atm): Prop:=IntsV w t.1 a.vars/\t.2.1=.int .i64 (a.ar:Int)/\RowsV w t.2.2 a.rows
theorem AtV.ext{w w':World}{t:V3}{a:Atm}(h:AtV w t a)(hx:Ext w w'): AtV w' t a:=⟨h.1.ext hx,h.2.1,h.2.2.ext hx⟩
theorem AtV.rel{w:World}{t:V3}{a:Atm}(h:AtV w t a): RelV w (.agg #[t.2.1,t.2.2]) a.ar a.rows:=⟨t.2.2,by rw [h.2.1],h.2.2⟩
theorem AtV.one{w:World}{t:V3}{a:Atm}(h:AtV w t a): ∀ u∈t.cells,u.oneCell'=true:=by
 obtain ⟨⟨A,c,J,_⟩,G,⟨ps,B,d,_,C,_⟩⟩:=h;intro u o;simp only [V3.cells,List.mem_cons,List.not_mem_nil,or_false]at o;rcases o with rfl|rfl|rfl
 .rw [J];rfl
 .rw [G];rfl
 .rw [C];rfl
def v30: V3:=(undef,undef,undef)
def a0: Atm:=⟨[],0,[]⟩
abbrev TA:= V3×Atm
def ta0: TA:=(v30,a0)
def atC(ts:List TA): List Value:=ts.flatMap λp=>p.1.cells
theorem Qxf: ∀ (r:List TA) (i j:Nat),i<r.length->j<3->(atC r)[i*3+j]?=(r.getD i ta0).1.cells[j]?
 | [],i,j,h,_=>by simp at h
 | v::r,0,j,_,hj=>by
  simp only [atC,List.flatMap_cons,Nat.zero_mul,Nat.zero_add,List.getD_cons_zero];rw [List.getElem?_append_left (by simp [V3.cells];omega)]
 | v::r,i+1,j,h,hj=>by
  have ih:=Qxf r i j (by simpa using h) hj;simp only [atC,List.flatMap_cons,List.getD_cons_succ]at ih ⊢;rw [List.getElem?_append_right (by simp [V3.cells];omega),<-ih];congr 1
  simp [V3.cells];omega
def AtsV(w:World)(v:Value)(ats:List Atm): Prop:=∃ (ts:List TA) (A:Option Addr) (c:Nat),ats=ts.map (·.2)/\v=.slice A ts.length c/\ts.length<=c/\ts.length<=1100000/\Rd w 3 A ts.length (atC ts)/\∀ p∈ts,AtV w p.1 p.2
theorem AtsV.ext{w w':World}{v:Value}{ats:List Atm}(h:AtsV w v ats)(hx:Ext w w'): AtsV w' v ats:=by
 obtain ⟨ts,A,c,U,O,J,G,C,u⟩:=h;exact ⟨ts,A,c,U,O,J,G,C.ext hx,λp o=>(u p o).ext hx⟩
theorem Jkg{w:World}{A:Option Addr}{n:Nat}{ts:List TA}(hR:Rd w 3 A n (atC ts))(hn:ts.length=n){i j:Nat}{u:Value}(hi:i<n)(hu:(ts.getD i ta0).1.cells[j]?=some u): w.cell? ((adr A (i*3)).add j)=some u:=by
 have o:j<3:=by have:=(List.getElem?_eq_some_iff.1 hu).1;simpa [V3.cells] using this
 rw [Xb];exact hR.cell (by rw [Qxf ts i j om o];exact hu)
theorem Ko{ts:List TA}{n:Nat}(hn:ts.length=n){i:Nat}(hi:i<n): ts.getD i ta0∈ts:=getD_mem' ta0 ts (hn.symm ▸ hi)
def ascB(zs:List Int): Prop:=∀ j,0<j->j<zs.length->zs.getD (j-1) 0<zs.getD j 0
def Jkh(n:Int)(a:Atm): Prop:=ascB a.vars/\(∀ v∈a.vars,0<=v/\v<n)/\a.vars.length=a.ar
def Jkd(n:Int)(ats:List Atm): Prop:=0<=n/\n<=32/\ats.length<=32/\(∀ a∈ats,Jkh n a)/\∀ v:Nat,(v:Int)<n->∃ a∈ats,(v:Int)∈a.vars
theorem Qgp{w:World}{A:Option Addr}{c:Nat}{bs:List Bool}{t:Bool}(hR:RdB w A bs)(hm:bs.length<=1100000): Ret Tryz.prog 183 [.slice A bs.length c,.bool t] w λu w'=>w'=w/\∃ z,u=.int .i64 z/\(0<=z↔t∈bs):=by
 refine Jz Tryz.func183 Tryz.ntmps183 rfl kr rfl ?_;refine ρ ?_;refine Qd (fun (k:Nat)=>[(0,.slice A bs.length c),(1,.bool t),(7,.int .i64 (bs.length:Int)),(8,.int .i64 (k:Int))]) (λk w'=>w'=w/\k<=bs.length/\t ∉ bs.take k) (λk=>bs.length-k) 0 sB ⟨rfl,Nat.zero_le _,by simp⟩ ?_;rintro k w' ⟨rfl,G,o⟩;refine ρ ?_;refine ci (λh=>?_) (λh=>?_)
 .have lk:k<bs.length:=by have:=oT h;omega
  refine ρ ?_;refine ix k hR lk ?_;refine ρ ?_;refine ld (RdB.cell hR lk) ?_;refine eqb ?_;refine ρ ?_;refine ci (λh=>?_) (λh=>?_)
  .refine ρ ?_;refine Jj ⟨rfl,(k:Int),rfl,⟨λ_=>?_,λ_=>om⟩⟩;rw [beq_iff_eq.1 h];exact getD_mem' false bs lk
  .refine ρ ?_;refine Qw (k+1) sO ⟨rfl,om,?_⟩ om;rw [Qy false lk,List.mem_append,List.mem_singleton];rintro (C|C)
   .exact o C
   .rw [<-C]at h;simp at h
 .refine ρ ?_;refine Jj ⟨rfl,-1,rfl,⟨λe=>om,λe=>?_⟩⟩;rw [List.take_of_length_le (by have:=oF h;omega)]at o;exact absurd e o
theorem Qln{w:World}{A:Option Addr}{c:Nat}{bs:List Bool}{t:Bool}(hR:RdB w A bs)(hm:bs.length<=1100000): Ret Tryz.prog 160 [.slice A bs.length c,.bool t] w λu w'=>w'=w/\∃ b:Bool,u=.bool b/\(b=true↔t∈bs):=by
 refine Jz Tryz.func160 Tryz.ntmps160 rfl kr rfl ?_;refine ρ ?_;refine cl (Qgp hR hm) ?_;rintro u w' ⟨rfl,z,rfl,o⟩;refine ρ ?_;exact Jj ⟨rfl,decide (0<=z),rfl,by rw [decide_eq_true_iff];exact o⟩
theorem Blk.at2{w:World}{g:Nat}{t:TypeId}{cs:List Value}(h:Blk w g t cs){i j:Nat}{v:Value}(hv:cs[i+j]?=some v): w.cell? ((⟨g,i,none⟩:Addr).add j)=some v:=by rw [Vg,h.cell];exact hv
theorem Vl: Qt Tryz.prog 99=some (.agg #[.slice none 0 0,.int .i64 0,.slice none 0 0]):=kr
abbrev Yn(w:World)(base:Nat)(v:Value)(bs:List Bool): Prop:=w.ownsRow base 4 1 v bs.length (bs.map Value.bool)
theorem Jfm{bs:List Bool}{i:Nat}(h:i<bs.length): (bs.map Value.bool)[i]?=some (.bool (bs.getD i false)):=by simp [List.getD,List.getElem?_eq_getElem h]
theorem Jss(bs:List Bool)(i k:Nat)(x:Bool)(hi:i<bs.length): (bs.set i x).getD k false=if k=i then x else bs.getD k false:=Jqt false bs i k x hi
theorem Jdd{w:World}{v:Value}{n:Int}{ats:List Atm}(h:AtsV w v ats): Ret Tryz.prog 125 [.int .i64 n,v] w λu w'=>Ext w w'/\∃ e,u=.int .i64 e/\(e=0↔Jkd n ats):=by
 obtain ⟨ts,A,c,rfl,rfl,bp,bo,hR,bg⟩:=h;generalize hm:ts.length=m at *
 refine Jz Tryz.func125 Tryz.ntmps125 rfl kr rfl ?_;refine ρ ?_;refine Vm (fun (t:Bool)=>[(0,.int .i64 n),(1,.slice A m c),(16,.bool t)]) (λt w'=>w'=w/\(t=true↔¬ (0<=n/\n<=32))) ?_ ?_
 .refine ki 13 (λh=>?_) (λh=>?_)
  .refine ρ ?_;exact Jb true sB ⟨rfl,by have:=oT h;simp;omega⟩
  .refine ρ ?_;refine Jb _ sB ⟨rfl,?_⟩;have:=oF h;rw [decide_eq_true_iff];omega
 rintro t w' ⟨rfl,ht⟩;refine ci (λh=>?_) (λh=>?_)
 .refine ρ ?_;exact Jj ⟨Ext.refl _,3,rfl,⟨λe=>(by cases e),λe=>absurd ⟨e.1,e.2.1⟩ (ht.1 h)⟩⟩
 have hn:0<=n/\n<=32:=by
  by_cases hz:0<=n/\n<=32
  .exact hz
  .rw [ht.2 hz]at h;cases h
 obtain ⟨bc,bn⟩:=hn;obtain ⟨N,rfl⟩:=Int.eq_ofNat_of_zero_le bc;clear h ht;refine ρ ?_;refine ci (λh=>?_) (λh=>?_)
 .refine ρ ?_;refine Jj ⟨Ext.refl _,12,rfl,⟨λe=>(by cases e),λe=>?_⟩⟩;have h1:=e.2.2.1;rw [List.length_map,hm]at h1;have:=oT h;omega
 have bm:m<=32:=by have:=oF h;omega
 clear h;refine ρ ?_;refine mkn EB N om (by unfold maxLen;omega) ?_;intro w1 O b9 aw hO;have av:Yn w1 w'.heap.size (.slice O N N) (List.replicate N false):=by
  rw [Yn,List.length_replicate,List.map_replicate];have e:(madeCells (Value.bool false).cells (N*1)).toList=List.replicate N (Value.bool false):=by rw [Nat.mul_one];exact Uj _ _
  rw [e]at aw;exact aw
 refine ρ ?_;refine Jt (fun (i:Nat) (J:List Bool)=>[(0,.int .i64 (N:Int)),(5,.slice O N N),(22,.slice A m c),(23,.int .i64 (m:Int)),(24,.int .i64 (i:Int))])
  (λi J w2=>i<=m/\Ext w' w2/\J.length=N/\Yn w2 w'.heap.size (.slice O N N) J/\(∀ j,j<i->Jkh N (ts.getD j ta0).2)/\∀ v:Nat,v<N->(J.getD v false=true↔∃ j,j<i/\(v:Int)∈(ts.getD j ta0).2.vars)) (λi _=>m-i) 0 (List.replicate N false) sB
  ⟨Nat.zero_le _,b9,by simp,av,λj hj=>om,λv hv=>⟨λe=>by simp [List.getD,hv]at e,λ⟨j,hj,_⟩=>om⟩⟩ ?_
 rintro i J w2 ⟨hi,ab,Z,ag,ap,o⟩;refine ρ ?_;refine ci (λh=>?_) (λh=>?_)
 .have li:i<m:=by have:=oT h;omega
  have b4:=hR.ext ab;obtain ⟨t1,t2,t3,a,hp⟩:∃ t1 t2 t3 a,ts.getD i ta0=((t1,t2,t3),a):=⟨_,_,_,_,rfl⟩;have aj:AtV w' (t1,t2,t3) a:=by have:=bg _ (Ko hm li);rw [hp]at this;exact this
  have ax:a∈ts.map (·.2):=List.mem_map.2 ⟨_,Ko hm li,by rw [hp]⟩
  clear h;obtain ⟨⟨D,d,e1,hd,br,b2⟩,e2,af⟩:=id aj;simp only at e1 e2;subst e1;subst e2;obtain ⟨ps,G,gc,_,ao,_⟩:=id af;simp only at ao;subst ao;refine ρ ?_;refine ixq 3 i b4 li ?_;refine ρ ?_;refine lds (cs:=[.slice D a.vars.length d,.int .i64 (a.ar:Int),.slice G ps.length gc]) (λj u hu=>Jkg b4 hm li (by rw [hp];exact hu)) ?_;refine ρ ?_;refine alc Vl ?_;intro w3 b b8 hb hB;refine ρ ?_;refine stb hB ?_ aj.one;intro w4 ai bq b7;have ad:Ext w2 w4:=b7 w2 b8 hb;have a5:=ab.trans ad;have au:=Jk ag ad;have a1:¬ Jkh N a->¬ Jkd N (ts.map (·.2)):=λh1 h2=>h1 (h2.2.2.2.1 a ax)
  refine ρ ?_;refine Qd (fun (k:Nat)=>[(0,.int .i64 (N:Int)),(5,.slice O N N),(22,.slice A m c),(23,.int .i64 (m:Int)),(24,.int .i64 (i:Int)),(7,.pointer (some ⟨b,0,none⟩)),(8,.int .i64 (k:Int))])
   (λk w5=>Ext w4 w5/\1<=k/\(k<=a.vars.length∨k=1)/\∀ j,0<j->j<k->a.vars.getD (j-1) 0<a.vars.getD j 0) (λk=>a.vars.length-k) 1 sB ⟨Ext.refl _,Nat.le_refl _,.inr rfl,λj h1 h2=>om⟩ ?_
  rintro k w5 ⟨aa,bf,be,a7⟩;have ac:=ai.ext aa;refine ρ ?_;refine ld (ac.at (i:=0) rfl) ?_;refine ρ ?_;refine ci (λh=>?_) (λh=>?_)
  .have lk:k<a.vars.length:=by have:=oT h;omega
   have ak:k-1<a.vars.length:=om
   clear h;refine ρ ?_;refine dr [(0,0),(0,1),(0,2),(0,3),(0,4),(0,5),(0,6),(0,7),(0,8),(0,9),(0,10),(0,11)] kr ?_;have a2:=aa.drew;have a4:=ai.ext a2;have C:=b2.ext (a5.trans a2);refine ρd ?_;refine dld (a4.at (i:=0) rfl) ?_;refine ρd ?_;refine dix (k-1) C ak ?_;refine ρd ?_;refine dld (C.cell (Jzk ak)) ?_;refine ρd ?_;refine dld (a4.at (i:=0) rfl) ?_;refine ρd ?_;refine dix k C lk ?_;refine ρd ?_;refine dld (C.cell (Jzk lk)) ?_;refine ρd ?_;refine ρ ?_;refine ci (λh=>?_) (λh=>?_)
   .refine ρ ?_;refine Jj ⟨a5.trans a2,16,rfl,⟨λe=>(by cases e),λe=>absurd e (a1 λh1=>?_)⟩⟩;have:=h1.1 k om lk;have:=oT h;omega
   .refine ρ ?_;refine Qw (k+1) sO ⟨a2,om,om,λj h1 h2=>?_⟩ om;by_cases U:j=k
    .subst U;have:=oF h;omega
    .exact a7 j h1 om
  have ah:ascB a.vars:=λj h1 h2=>a7 j h1 (by have:=oF h;omega);clear h a7 bf be;have an:=a5.trans aa;have aq:=Jk au aa;refine ρ ?_;refine ld (ac.at (i:=0) rfl) ?_;refine ρ ?_;refine Jt (fun (q:Nat) (J:List Bool)=>[(0,.int .i64 (N:Int)),(5,.slice O N N),(22,.slice A m c),(23,.int .i64 (m:Int)),(24,.int .i64 (i:Int)),(7,.pointer (some ⟨b,0,none⟩)),(48,.slice D a.vars.length d),(49,.int .i64 (a.vars.length:Int)),(50,.int .i64 (q:Int))])
   (λq J w6=>q<=a.vars.length/\Ext w' w6/\J.length=N/\Yn w6 w'.heap.size (.slice O N N) J/\Blk w6 b 99 [.slice D a.vars.length d,.int .i64 (a.ar:Int),.slice G ps.length gc]/\(∀ j,j<q->0<=a.vars.getD j 0/\a.vars.getD j 0<N)/\∀ v:Nat,v<N->(J.getD v false=true↔(∃ j,j<i/\(v:Int)∈(ts.getD j ta0).2.vars)∨∃ j,j<q/\a.vars.getD j 0=(v:Int))) (λq _=>a.vars.length-q) 0 J sB
   ⟨Nat.zero_le _,an,Z,aq,ac,λj hj=>om,λv hv=>⟨λe=>.inl ((o v hv).1 e),λe=>(o v hv).2 (e.elim id λ⟨j,hj,_⟩=>om)⟩⟩ ?_
  clear ag au aq ac ai o Z;rintro q J w6 ⟨hq,a9,Z,a3,a4,b1,o⟩;refine ρ ?_;refine ci (λh=>?_) (λh=>?_)
  .have lq:q<a.vars.length:=by have:=oT h;omega
   have C:=b2.ext a9;have ba:a.vars.getD q 0∈a.vars:=getD_mem' 0 _ lq;clear h;refine ρ ?_;refine ix q C lq ?_;refine ρ ?_;refine ld (C.cell (Jzk lq)) ?_;refine ρ ?_;generalize hz:a.vars.getD q 0=z at *
   refine Vm (fun (t:Bool)=>[(0,.int .i64 (N:Int)),(5,.slice O N N),(22,.slice A m c),(23,.int .i64 (m:Int)),(24,.int .i64 (i:Int)),(7,.pointer (some ⟨b,0,none⟩)),(48,.slice D a.vars.length d),(49,.int .i64 (a.vars.length:Int)),(50,.int .i64 (q:Int)),(10,.int .i64 z),(60,.bool t)]) (λt w7=>w7=w6/\(t=true↔¬ (0<=z/\z<N))) ?_ ?_
   .refine ki 56 (λh=>?_) (λh=>?_)
    .refine ρ ?_;exact Jb true sB ⟨rfl,by have:=oT h;simp;omega⟩
    .refine ρ ?_;refine Jb _ sB ⟨rfl,?_⟩;have:=oF h;rw [decide_eq_true_iff];omega
   rintro t w7 ⟨rfl,ht⟩;refine ci (λh=>?_) (λh=>?_)
   .refine ρ ?_;exact Jj ⟨a9,3,rfl,⟨λe=>(by cases e),λe=>absurd e (a1 λh1=>ht.1 h (h1.2.1 z ba))⟩⟩
   have am:0<=z/\z<N:=by
    by_cases hz:0<=z/\z<N
    .exact hz
    .rw [ht.2 hz]at h;cases h
   obtain ⟨x,rfl⟩:=Int.eq_ofNat_of_zero_le am.1;have lx:x<N:=om
   rw [Yn,Z]at a3;obtain ⟨s1,s2,s3,s4,s5⟩:=Zd a3 (q:=x) om (.bool true);refine ρ ?_;refine ix x (Rd.own a3) lx ?_;refine ρ ?_;refine sto (s1.trans (Jfm om)) s2 ?_;refine ρ ?_;refine Jg (q+1) (J.set x true) sO ⟨om,Qv a9 s5 (λk hk=>by
    obtain ⟨_,_,_,_,hf⟩:=Jv a3;exact (hf k hk).1),by simpa using Z,?_,a4.grown s5 (a4.ne_own a3 rfl),λj hj=>?_,λv hv=>?_⟩ om
   .rw [Yn,List.length_set,Z,List.map_set];exact s3
   .by_cases U:j=q
    .subst U;rw [hz];exact am
    .exact b1 j om
   .rw [Jss _ _ _ _ om];by_cases ev:v=x
    .subst ev;rw [if_pos rfl];exact ⟨λ_=>.inr ⟨q,om,hz⟩,λ_=>rfl⟩
    .rw [if_neg ev,o v hv];constructor
     .rintro (h'|⟨j,hj,U⟩)
      .exact .inl h'
      .exact .inr ⟨j,om,U⟩
     .rintro (h'|⟨j,hj,U⟩)
      .exact .inl h'
      .by_cases e2:j=q
       .subst e2;rw [hz]at U;omega
       .exact .inr ⟨j,om,U⟩
  .have eq:q=a.vars.length:=by have:=oF h;omega
   clear h;have ay:∀ v∈a.vars,0<=v/\v<N:=λv hv=>by
    obtain ⟨j,hj,rfl⟩:=List.getElem_of_mem hv;have:=b1 j om;rw [Jp 0 _ hj]at this;exact this
   refine ρ ?_;refine dr [(0,0),(0,1),(0,2),(0,3),(0,4),(1,5),(0,6)] kr ?_;have a6:=a9.drew;have b5:=a4.ext (Ext.refl w6).drew;have bj:=aj.ext a6;refine ρd ?_;refine dld (b5.at (i:=0) rfl) ?_;refine ρd ?_;refine Qk (cs:=[.int .i64 (a.ar:Int),.slice G ps.length gc]) (λj u hu=>Blk.at2 b5 (i:=0+1) (by rw [Nat.add_comm];simpa using hu)) ?_;refine ρd ?_;refine dcl (Jcd bj.rel) ?_;rintro u w8 ⟨rfl,a8⟩;refine ⟨a8,?_⟩;refine ρd ?_;refine ρ ?_;refine ci (λh=>?_) (λh=>?_)
   .refine ρ ?_;refine Jj ⟨a6.trans a8,6,rfl,⟨λe=>(by cases e),λe=>absurd e (a1 λh1=>?_)⟩⟩;have:=Gf h;have:=h1.2.2;omega
   .refine ρ ?_;have bh:a.vars.length=a.ar:=by have:=Gg h;omega
    refine Jg (i+1) J sO ⟨om,a6.trans a8,Z,Jk (Jk a3 (Ext.refl w6).drew) a8,λj hj=>?_,λv hv=>?_⟩ om
    .by_cases U:j=i
     .subst U;rw [hp];exact ⟨ah,ay,bh⟩
     .exact ap j om
    .rw [o v hv];constructor
     .rintro (⟨j,hj,U⟩|⟨j,hj,U⟩)
      .exact ⟨j,om,U⟩
      .refine ⟨i,om,?_⟩;rw [hp,<-U];exact getD_mem' 0 a.vars om
     .rintro ⟨j,hj,U⟩;by_cases e2:j=i
      .subst e2;have bl:(v:Int)∈a.vars:=by rw [hp]at U;exact U
       obtain ⟨y,hy,ey⟩:=List.getElem_of_mem bl;exact .inr ⟨y,om,by rw [Jp 0 _ hy];exact ey⟩
      .exact .inl ⟨j,om,U⟩
 .have ei:i=m:=by have:=oF h;omega
  clear h;subst Z;have bi:RdB w2 O J:=Rd.own ag;have b3:∀ a∈ts.map (·.2),Jkh J.length a:=λa ha=>by
   obtain ⟨p,hp,rfl⟩:=List.mem_map.1 ha;obtain ⟨j,hj,rfl⟩:=List.getElem_of_mem hp;have:=ap j om;rw [Jp ta0 _ hj]at this;exact this
  refine ρ ?_;refine cl (Qln bi om) ?_;rintro u w3 ⟨rfl,t,rfl,ht⟩;refine ρ ?_;refine ci (λh=>?_) (λh=>?_)
  .refine ρ ?_;refine Jj ⟨ab,22,rfl,⟨λe=>(by cases e),λe=>?_⟩⟩;obtain ⟨x,hx,ex⟩:=List.getElem_of_mem (ht.1 h);obtain ⟨a,ha,b6⟩:=e.2.2.2.2 x om;obtain ⟨p,hp,rfl⟩:=List.mem_map.1 ha;obtain ⟨j,hj,rfl⟩:=List.getElem_of_mem hp;have:=(o x om).2 ⟨j,om,by rw [Jp ta0 _ hj];exact b6⟩;rw [Jp false J hx,ex]at this;cases this
  .refine ρ ?_;refine Jj ⟨ab,0,rfl,⟨λ_=>⟨om,om,by rw [List.length_map];omega,b3,λv hv=>?_⟩,λ_=>rfl⟩⟩;have bb:v<J.length:=om
   have ae:J.getD v false=true:=by
    cases hc:J.getD v false with
    | true=>rfl
    | false=>
     rw [Jp false J om]at hc;have:false∈J:=by rw [<-hc];exact List.getElem_mem _
     rw [ht.2 this]at h;cases h
   obtain ⟨j,hj,bd⟩:=(o v bb).1 ae;exact ⟨_,List.mem_map.2 ⟨_,Ko hm om,rfl⟩,bd⟩
open Go.RowKit Pl Go.Wk
structure Inp where
 n: Int
 free:Int
 desc:List Bool
 perm:List Int
 ats:List Atm
def InC(w:World)(i:Inp)(cs:List Value): Prop:=∃ vd vp va,cs=[.int .i64 i.n,.int .i64 i.free,vd,vp,va]/\BoolsV w vd i.desc/\IntsV w vp i.perm/\AtsV w va i.ats
theorem InC.ext{w w':World}{i:Inp}{cs:List Value}(h:InC w i cs)(hx:Ext w w'): InC w' i cs:=by
 obtain ⟨u,o,C,e,O,J,G⟩:=h;exact ⟨u,o,C,e,O.ext hx,J.ext hx,G.ext hx⟩
def InV(w:World)(v:Value)(i:Inp): Prop:=∃ cs,v=.agg cs.toArray/\InC w i cs
theorem InV.ext{w w':World}{v:Value}{i:Inp}(h:InV w v i)(hx:Ext w w'): InV w' v i:=by
 obtain ⟨cs,e,h⟩:=h;exact ⟨cs,e,h.ext hx⟩
def Jxf(i:Inp): Prop:=0<=i.n/\i.n<=32/\0<=i.free/\i.free<=i.n/\(i.desc.length:Int)=i.free/\(i.perm.length:Int)=i.n-i.free/\(∀ v∈i.perm,i.free<=v/\v<i.n)/\i.perm.Nodup/\Jkd i.n i.ats
theorem Jsl{w:World}{v:Value}{inp:Inp}(h:InV w v inp)(hn64:-9223372036854775808<=inp.n/\inp.n<=9223372036854775807)(hf64:-9223372036854775808<=inp.free/\inp.free<=9223372036854775807): Ret Tryz.prog 79 [v] w λu w'=>Ext w w'/\∃ e,u=.int .i64 e/\(e=0↔Jxf inp):=by
 obtain ⟨_,rfl,vd,vp,va,rfl,af,ae,ab⟩:=h;obtain ⟨n,free,a1,perm,ats⟩:=inp;simp only at af ae ab hn64 hf64 ⊢;obtain ⟨D,dc,rfl,b4,b3,b2⟩:=id af;obtain ⟨G,gc,rfl,ay,ax,ap⟩:=id ae;obtain ⟨ts,A,c,_,rfl,_⟩:=id ab;refine Jz Tryz.func79 Tryz.ntmps79 rfl kr rfl ?_;refine ρ ?_;refine bx ?_;intro w1 b aa hb U;refine ρ ?_;refine Vm (fun (t:Bool)=>[(1,.pointer (some ⟨b,0,none⟩)),(25,.bool t)]) (λt w'=>w'=w1/\(t=true↔¬ (0<=n/\n<=32/\0<=free/\free<=n))) ?_ ?_
 .refine ld (U.at (i:=0) rfl) ?_;refine ρ ?_;refine ki 9 (λh=>?_) (λh=>?_)
  .have:=oT h;refine ρ ?_;exact Jb true sB ⟨rfl,by simp;omega⟩
  have h1:=oF h;refine ρ ?_;refine ld (U.at (i:=0) rfl) ?_;refine ρ ?_;refine ki 14 (λh=>?_) (λh=>?_)
  .have:=oT h;refine ρ ?_;exact Jb true sB ⟨rfl,by simp;omega⟩
  have h2:=oF h;refine ρ ?_;refine ld (U.at (i:=1) rfl) ?_;refine ρ ?_;refine ki 19 (λh=>?_) (λh=>?_)
  .have:=oT h;refine ρ ?_;exact Jb true sB ⟨rfl,by simp;omega⟩
  have h3:=oF h;refine ρ ?_;refine ld (U.at (i:=1) rfl) ?_;refine ρ ?_;refine ld (U.at (i:=0) rfl) ?_;refine ρ ?_;refine Jb _ sB ⟨rfl,?_⟩;rw [decide_eq_true_iff];omega
 rintro t w' ⟨rfl,ht⟩;refine ci (λh=>?_) (λh=>?_)
 .refine ρ ?_;exact Jj ⟨aa,3,rfl,⟨λe=>(by cases e),λe=>absurd ⟨e.1,e.2.1,e.2.2.1,e.2.2.2.1⟩ (ht.1 h)⟩⟩
 have hn:0<=n/\n<=32/\0<=free/\free<=n:=by
  by_cases hz:0<=n/\n<=32/\0<=free/\free<=n
  .exact hz
  .rw [ht.2 hz]at h;cases h
 obtain ⟨ao,aw,aq,b1⟩:=hn;obtain ⟨N,rfl⟩:=Int.eq_ofNat_of_zero_le ao;obtain ⟨F,rfl⟩:=Int.eq_ofNat_of_zero_le aq;clear h ht;refine ρ ?_;refine ld (U.at (i:=2) rfl) ?_;refine ρ ?_;refine ld (U.at (i:=1) rfl) ?_;refine ρ ?_;refine Vm (fun (t:Bool)=>[(1,.pointer (some ⟨b,0,none⟩)),(42,.bool t)]) (λt w2=>w2=w'/\(t=true↔¬ (a1.length=F/\perm.length+F=N))) ?_ ?_
 .refine ki 32 (λh=>?_) (λh=>?_)
  .have:=Gf h;refine ρ ?_;exact Jb true sB ⟨rfl,by simp;omega⟩
  have h1:=Gg h;refine ρ ?_;refine ld (U.at (i:=3) rfl) ?_;refine ρ ?_;refine ld (U.at (i:=0) rfl) ?_;refine ρ ?_;refine ld (U.at (i:=1) rfl) ?_;refine ρ ?_;refine Jb _ sB ⟨rfl,?_⟩;rw [bne_iff_ne];omega
 rintro t2 w2 ⟨rfl,ht⟩;refine ci (λh=>?_) (λh=>?_)
 .refine ρ ?_;refine Jj ⟨aa,1,rfl,⟨λe=>(by cases e),λe=>absurd ?_ (ht.1 h)⟩⟩;have h5:=e.2.2.2.2.1;have h6:=e.2.2.2.2.2.1;simp only at h5 h6;omega
 have ar:a1.length=F/\perm.length+F=N:=by
  by_cases hz:a1.length=F/\perm.length+F=N
  .exact hz
  .rw [ht.2 hz]at h;cases h
 obtain ⟨b5,av⟩:=ar;clear h ht;refine ρ ?_;refine ld (U.at (i:=0) rfl) ?_;refine ρ ?_;refine mkn EB N om (by unfold maxLen;omega) ?_;intro w3 O ad ah hO;have ag:Yn w3 w2.heap.size (.slice O N N) (List.replicate N false):=by
  rw [Yn,List.length_replicate,List.map_replicate];have e:(madeCells (Value.bool false).cells (N*1)).toList=List.replicate N (Value.bool false):=by rw [Nat.mul_one];exact Uj _ _
  rw [e]at ah;exact ah
 refine ρ ?_;refine ld ((U.ext ad).at (i:=3) rfl) ?_;refine ρ ?_;refine Jt (fun (i:Nat) (us:List Bool)=>[(1,.pointer (some ⟨b,0,none⟩)),(3,.slice O N N),(47,.slice G perm.length gc),(48,.int .i64 (perm.length:Int)),(49,.int .i64 (i:Int))])
  (λi us w4=>i<=perm.length/\Ext w2 w4/\us.length=N/\Yn w4 w2.heap.size (.slice O N N) us/\(∀ v∈perm.take i,(F:Int)<=v/\v<N)/\(perm.take i).Nodup/\∀ v:Nat,v<N->(us.getD v false=true↔(v:Int)∈perm.take i)) (λi _=>perm.length-i) 0 (List.replicate N false) sB
  ⟨Nat.zero_le _,ad,by simp,ag,λv hv=>by simp at hv,by simp,λv hv=>⟨λe=>by simp [List.getD,hv]at e,λe=>by simp at e⟩⟩ ?_
 rintro i us w4 ⟨hi,a9,a2,J,ac,Z,a6⟩;have a5:=U.ext a9;have C:=aa.trans a9;refine ρ ?_;refine ci (λh=>?_) (λh=>?_)
 .have li:i<perm.length:=by have:=oT h;omega
  have a7:=ap.ext C;clear h;have aj:perm.getD i 0∈perm:=getD_mem' 0 perm li;have a3:perm.take (i+1)=perm.take i++[perm.getD i 0]:=Qy 0 li;have a4:perm.Nodup->perm.getD i 0 ∉ perm.take i:=λZ hm=>by
   have h1:(perm.take (i+1)).Nodup:=Z.sublist (List.take_sublist _ _);rw [a3,List.nodup_append]at h1;exact h1.2.2 _ hm _ (List.mem_singleton.2 rfl) rfl
  refine ρ ?_;refine ix i a7 li ?_;refine ρ ?_;refine ld (a7.cell (Jzk li)) ?_;refine ρ ?_;refine ld (a5.at (i:=1) rfl) ?_;refine ρ ?_;generalize hz:perm.getD i 0=z at *
  refine Vm (fun (t:Bool)=>[(1,.pointer (some ⟨b,0,none⟩)),(3,.slice O N N),(47,.slice G perm.length gc),(48,.int .i64 (perm.length:Int)),(49,.int .i64 (i:Int)),(5,.int .i64 z),(68,.bool t)]) (λt w5=>w5=w4/\(t=true↔¬ ((F:Int)<=z/\z<N/\z ∉ perm.take i))) ?_ ?_
  .refine ki 57 (λh=>?_) (λh=>?_)
   .have:=oT h;refine ρ ?_;exact Jb true sB ⟨rfl,by simp;omega⟩
   have h1:=oF h;refine ρ ?_;refine ld (a5.at (i:=0) rfl) ?_;refine ρ ?_;refine ki 63 (λh=>?_) (λh=>?_)
   .have:=oT h;refine ρ ?_;exact Jb true sB ⟨rfl,by simp;omega⟩
   have h2:=oF h;have ak:0<=z:=om
   obtain ⟨x,rfl⟩:=Int.eq_ofNat_of_zero_le ak;have lx:x<N:=om
   have ai:Rd w4 1 O N (us.map Value.bool):=by rw [Yn,a2]at J;exact Rd.own J
   refine ρ ?_;refine ix x ai lx ?_;refine ρ ?_;have am:x<us.length:=om
   refine ld (ai.cell (Jfm am)) ?_;refine ρ ?_;refine Jb _ sB ⟨rfl,?_⟩;rw [a6 x lx];constructor
   .intro o au;exact au.2.2 o
   .intro o;by_cases hm:(x:Int)∈perm.take i
    .exact hm
    .exact absurd ⟨om,om,hm⟩ o
  rintro t5 w5 ⟨rfl,ht⟩;refine ci (λh=>?_) (λh=>?_)
  .refine ρ ?_;refine Jj ⟨C,1,rfl,⟨λe=>(by cases e),λe=>absurd ?_ (ht.1 h)⟩⟩;have h7:=e.2.2.2.2.2.2.1 z aj;have h8:=a4 e.2.2.2.2.2.2.2.1;exact ⟨h7.1,h7.2,h8⟩
  have a8:(F:Int)<=z/\z<N/\z ∉ perm.take i:=by
   by_cases hz:(F:Int)<=z/\z<N/\z ∉ perm.take i
   .exact hz
   .rw [ht.2 hz]at h;cases h
  obtain ⟨x,rfl⟩:=Int.eq_ofNat_of_zero_le (show 0<=z by omega);have lx:x<N:=om
  rw [Yn,a2]at J;obtain ⟨s1,s2,s3,s4,s5⟩:=Zd J (q:=x) om (.bool true);refine ρ ?_;refine ix x (Rd.own J) lx ?_;refine ρ ?_;refine sto (s1.trans (Jfm om)) s2 ?_;refine ρ ?_;refine Jg (i+1) (us.set x true) sO ⟨om,Qv a9 s5 (λk hk=>by
    obtain ⟨_,_,_,_,hf⟩:=Jv J;exact (hf k hk).1),by simpa using a2,?_,λv hv=>?_,?_,λv hv=>?_⟩ om
  .rw [Yn,List.length_set,a2,List.map_set];exact s3
  .rw [a3,List.mem_append,List.mem_singleton]at hv;rcases hv with o|o
   .exact ac v o
   .rw [o];exact ⟨a8.1,a8.2.1⟩
  .rw [a3,List.nodup_append];refine ⟨Z,by simp,λp hp q hq e=>?_⟩;rw [List.mem_singleton]at hq;subst hq;subst e;exact a8.2.2 hp
  .rw [Jss _ _ _ _ om,a3,List.mem_append,List.mem_singleton];by_cases ev:v=x
   .subst ev;rw [if_pos rfl];exact ⟨λ_=>.inr rfl,λ_=>rfl⟩
   .rw [if_neg ev,a6 v hv];exact ⟨λo=>.inl o,λo=>o.elim id λe=>om⟩
 .have ei:i=perm.length:=by have:=oF h;omega
  clear h;rw [ei,List.take_of_length_le (Nat.le_refl _)]at ac Z;refine ρ ?_;refine ld (a5.at (i:=0) rfl) ?_;refine ρ ?_;refine ld (a5.at (i:=4) rfl) ?_;refine ρ ?_;refine cl (Jdd (ab.ext C)) ?_;rintro u w5 ⟨an,e,rfl,he⟩;refine ρ ?_;refine Jj ⟨C.trans an,e,rfl,he.trans ⟨λo=>⟨by simp only;omega,by simp only;omega,by simp only;omega,by simp only;omega,by simp only;omega,by simp only;omega,ac,Z,o⟩,λo=>o.2.2.2.2.2.2.2.2⟩⟩
end Go.Proofs.YtebcagekopgdhaaGreatDoor
namespace Go.Proofs.YtebcagekopgdhaaGreatDoor
open Pl
def pfx(rs:List Row)(l:Nat): List Row:=ddF (rs.map (List.take l))
theorem Jpj(rs:List Row)(x:Row)(l:Nat): pfx (rs++[x]) l=ddS (pfx rs l) (x.take l):=by
 unfold pfx;rw [List.map_append,List.map_cons,List.map_nil,Jff]
theorem Qjg: ∀ (a b:Row) (l:Nat),Jw a b []<=0->Jw (a.take l) (b.take l) []<=0
 | _,_,0,_=>by simp [Jw]
 | [],[],_+1,_=>by simp [Jw]
 | [],_::_,_+1,_=>by simp [Jw]
 | _::_,[],_+1,h=>by simp [Jw]at h
 | x::a,y::b,l+1,h=>by
  simp only [List.take_succ_cons,Jw,List.drop_nil]at h ⊢;by_cases e:cmpV x y=0
  .rw [if_pos e]at h ⊢;exact Qjg a b l h
  .rw [if_neg e]at h ⊢;exact h
theorem Qvj{rs:List Row}(h:Srt [] rs)(l:Nat): Srt [] (rs.map (List.take l)):=by
 unfold Srt at h ⊢;rw [List.pairwise_map];exact h.imp λo=>Qjg _ _ l o
theorem Ut{rs:List Row}(h:Lt [] rs): Srt [] rs:=h.imp λo=>by omega
theorem Jzc{rs:List Row}(h:Srt [] rs)(l:Nat): IsSet [] (rs.map (List.take l)) (pfx rs l):=Jtr (Qvj h l)
theorem Jjw{rs:List Row}(h:Srt [] rs){l:Nat}{q:Row}: q∈pfx rs l↔∃ r∈rs,r.take l=q:=by
 rw [(Jzc h l).2,List.mem_map]
theorem Qbv{rs:List Row}{d:Nat}(h:Lt [] rs)(hl:∀ r∈rs,r.length=d): pfx rs d=rs:=by
 have e:rs.map (List.take d)=rs:=by
  conv=>rhs;rw [<-List.map_id rs]
  exact List.map_congr_left λr u=>by rw [List.take_of_length_le (by rw [hl r u];exact Nat.le_refl _)];rfl
 have o:=Jzc (Ut h) d;rw [e]at o;exact Jjq o.1 h o.2
theorem Jpk{rs:List Row}{x:Row}{l:Nat}: (pfx (rs++[x]) l).getLast?=some (x.take l):=by rw [Jpj];exact Jtp _ _
def shr: Row->Row->Nat
 | a::x,b::y=>if a=b then shr x y+1 else 0
 | _,_=>0
theorem Jbh(y:Row): shr [] y=0:=by cases y<;>rfl
theorem Jmf: ∀ x y:Row,shr x y<=x.length/\shr x y<=y.length
 | [],y=>by rw [Jbh];simp
 | _::_,[]=>by simp [shr]
 | a::x,b::y=>by
  have:=Jmf x y;simp only [shr,List.length_cons];split<;>omega
theorem Jbg: ∀ (x y:Row) (l:Nat),x.length=y.length->(x.take l=y.take l↔l<=shr x y∨x=y)
 | [],[],l,_=>by simp
 | [],_::_,_,h=>by simp at h
 | _::_,[],_,h=>by simp at h
 | a::x,b::y,0,_=>by simp
 | a::x,b::y,l+1,h=>by
  have ih:=Jbg x y l (by simpa using h);simp only [List.take_succ_cons,List.cons.injEq,shr];by_cases e:a=b
  .rw [if_pos e,ih];constructor
   .rintro ⟨_,h'|h'⟩
    .exact .inl om
    .exact .inr ⟨e,h'⟩
   .rintro (h'|h')
    .exact ⟨e,.inl om⟩
    .exact ⟨e,.inr h'.2⟩
  .rw [if_neg e];constructor
   .rintro ⟨h',_⟩;exact absurd h' e
   .rintro (h'|h')
    .omega
    .exact absurd h'.1 e
def lvl(rs:List Row)(l:Nat): Row:=(pfx rs (l+1)).map λq=>q.getD l V0
theorem Jql(rs:List Row)(l:Nat): (lvl rs l).length=(pfx rs (l+1)).length:=by simp [lvl]
theorem Qfc{rs:List Row}{l i:Nat}(h:i<(pfx rs (l+1)).length): (lvl rs l).getD i V0=((pfx rs (l+1)).getD i []).getD l V0:=by
 rw [Jp V0 _ (by rw [Jql];exact h),Jp [] _ h];simp [lvl]
def Fst(rs:List Row)(l:Nat)(f:List Nat): Prop:=f.length=(pfx rs (l+1)).length/\(∀ j,j<f.length->f.getD j 0<=(pfx rs (l+2)).length) /\
 ∀ j i,j<f.length->i<(pfx rs (l+2)).length->(((pfx rs (l+2)).getD i []).take (l+1)=(pfx rs (l+1)).getD j []↔f.getD j 0<=i/\(j+1<f.length->i<f.getD (j+1) 0))
def stp(rs:List Row)(x:Row): Nat:=match rs.getLast? with
 | some y=>shr y x
 | none=>0
theorem Ic{rs:List Row}{x:Row}{d:Nat}(h:Lt [] (rs++[x]))(hl:∀ r∈rs++[x],r.length=d){l:Nat}(h0:0<l): pfx (rs++[x]) l=if l<=stp rs x then pfx rs l else pfx rs l++[x.take l]:=by
 rw [Jpj];rcases List.eq_nil_or_concat rs with rfl|⟨r,y,rfl⟩
 .rw [if_neg (by simp [stp];omega)];rfl
 .rw [List.concat_eq_append]at *;have U:(r++[y]).getLast?=some y:=by simp
  have u:Jw y x []<0:=(List.pairwise_append.1 h).2.2 y (by simp) x (by simp);have G:y≠x:=λe=>by rw [e,Vo]at u;omega
  have o:y.length=x.length:=by rw [hl y (by simp),hl x (by simp)]
  have C:stp (r++[y]) x=shr y x:=by simp [stp]
  rw [C,ddS,Jpk];by_cases e:y.take l=x.take l
  .rw [if_pos (by rw [e]),if_pos (((Jbg y x l o).1 e).elim id λJ=>absurd J G)]
  .rw [if_neg (λO=>e (by injection O)),if_neg (λJ=>e ((Jbg y x l o).2 (.inl J)))]
theorem Qbs{rs:List Row}{x:Row}{d:Nat}(h:Lt [] (rs++[x]))(hl:∀ r∈rs++[x],r.length=d){l:Nat}(h0:0<l)(hs:stp rs x<l): x.take l ∉ pfx rs l:=by
 have e:=Ic h hl h0;rw [if_neg om]at e;have o:=(Jzc (Ut h) l).1;rw [e]at o;intro u;have:=(List.pairwise_append.1 o).2.2 _ u (x.take l) (by simp);rw [Vo]at this;omega
theorem Qfg{l:List Row}(h:Lt [] l){i j:Nat}(hi:i<l.length)(hj:j<l.length)(e:l.getD i []=l.getD j []): i=j:=by
 rcases Nat.lt_trichotomy i j with h'|h'|h'
 .have:=h.at h' hj;rw [e,Vo]at this;omega
 .exact h'
 .have:=h.at h' hi;rw [e,Vo]at this;omega
theorem Gn{α:Type}(z:α)(l:List α)(x:α)(k:Nat): (l++[x]).getD k z=if k<l.length then l.getD k z else if k=l.length then x else z:=by
 simp only [List.getD];by_cases h:k<l.length
 .rw [if_pos h,List.getElem?_append_left h]
 .rw [if_neg h,List.getElem?_append_right om];by_cases e:k=l.length
  .rw [if_pos e,e,Nat.sub_self];rfl
  .rw [if_neg e,List.getElem?_eq_none (by simp;omega)];rfl
theorem take_take'(q:Row)(l:Nat): (q.take (l+2)).take (l+1)=q.take (l+1):=by rw [List.take_take,Nat.min_eq_left om]
theorem Qbr{rs:List Row}(h:Srt [] rs){l i:Nat}(hi:i<(pfx rs (l+2)).length): ((pfx rs (l+2)).getD i []).take (l+1)∈pfx rs (l+1):=by
 obtain ⟨r,o,e⟩:=(Jjw h).1 (getD_mem' [] _ hi);rw [<-e,take_take'];exact (Jjw h).2 ⟨r,o,rfl⟩
theorem Fst.keep{rs:List Row}{x:Row}{d l:Nat}{f:List Nat}(hF:Fst rs l f)(h:Lt [] (rs++[x]))(hl:∀ r∈rs++[x],r.length=d)(hs:l+1<=stp rs x): Fst (rs++[x]) l f:=by
 obtain ⟨h1,G,h3⟩:=hF;have Z:pfx (rs++[x]) (l+1)=pfx rs (l+1):=by rw [Ic h hl om,if_pos hs]
 have u:Lt [] rs:=(List.pairwise_append.1 h).1;have o:0<(pfx rs (l+1)).length/\(pfx rs (l+1)).getD ((pfx rs (l+1)).length-1) []=x.take (l+1):=by
  have h5:=Jpk (rs:=rs) (x:=x) (l:=l+1);rw [Z,List.getLast?_eq_getElem?]at h5;have h6:=(List.getElem?_eq_some_iff.1 h5);obtain ⟨h7,h8⟩:=h6;exact ⟨om,by rw [Jp [] _ h7,h8]⟩
 have J:Lt [] (pfx rs (l+1)):=(Jzc (Ut u) _).1;by_cases hs2:l+2<=stp rs x
 .have U:pfx (rs++[x]) (l+2)=pfx rs (l+2):=by rw [Ic h hl om,if_pos hs2]
  unfold Fst;rw [Z,U];exact ⟨h1,G,h3⟩
 .have U:pfx (rs++[x]) (l+2)=pfx rs (l+2)++[x.take (l+2)]:=by rw [Ic h hl om,if_neg hs2]
  unfold Fst;rw [Z,U];refine ⟨h1,λj C=>?_,λj i C hi=>?_⟩
  .have:=G j C;rw [List.length_append];omega
  .rw [List.length_append,List.length_singleton]at hi;rw [Gn];by_cases hi2:i<(pfx rs (l+2)).length
   .rw [if_pos hi2];exact h3 j i C hi2
   .rw [if_neg hi2,if_pos om,take_take',<-o.2];have ei:i=(pfx rs (l+2)).length:=om
    constructor
    .intro e;have O:=Qfg J om om e;exact ⟨by rw [ei];exact G j C,λh'=>om⟩
    .rintro ⟨_,h'⟩;by_cases O:j+1<f.length
     .have:=h' O;have:=G (j+1) O;omega
     .congr 1;omega
theorem Fst.more{rs:List Row}{x:Row}{d l:Nat}{f:List Nat}(hF:Fst rs l f)(h:Lt [] (rs++[x]))(hl:∀ r∈rs++[x],r.length=d)(hs:stp rs x<=l): Fst (rs++[x]) l (f++[(pfx rs (l+2)).length]):=by
 obtain ⟨U,J,O⟩:=hF;have u:Lt [] rs:=(List.pairwise_append.1 h).1;have e1:pfx (rs++[x]) (l+1)=pfx rs (l+1)++[x.take (l+1)]:=by rw [Ic h hl om,if_neg om]
 have Z:pfx (rs++[x]) (l+2)=pfx rs (l+2)++[x.take (l+2)]:=by rw [Ic h hl om,if_neg om]
 have hn:=Qbs h hl (l:=l+1) om om;unfold Fst;rw [e1,Z];refine ⟨by simp [U],λj C=>?_,λj i C hi=>?_⟩
 .rw [List.length_append,List.length_singleton]at C;rw [Gn,List.length_append,List.length_singleton];by_cases hj2:j<f.length
  .rw [if_pos hj2];have:=J j hj2;omega
  .rw [if_neg hj2,if_pos om];omega
 .rw [List.length_append,List.length_singleton]at hi C;rw [Gn [],Gn [],Gn 0,Gn 0,List.length_append,List.length_singleton];by_cases hj2:j<f.length<;>by_cases hi2:i<(pfx rs (l+2)).length
  .rw [if_pos hi2,if_pos (show j<(pfx rs (l+1)).length by omega),if_pos hj2,O j i hj2 hi2];by_cases ej:j+1<f.length
   .rw [if_pos ej];exact ⟨λo=>⟨o.1,λ_=>o.2 ej⟩,λo=>⟨o.1,λ_=>o.2 om⟩⟩
   .rw [if_neg ej,if_pos om];exact ⟨λo=>⟨o.1,λ_=>hi2⟩,λo=>⟨o.1,λe=>absurd e ej⟩⟩
  .rw [if_neg hi2,if_pos (show i=(pfx rs (l+2)).length by omega),if_pos (show j<(pfx rs (l+1)).length by omega),if_pos hj2,take_take'];constructor
   .intro e;exact absurd (e ▸ getD_mem' [] _ om) hn
   .rintro ⟨_,o⟩;have G:=o om;by_cases ej:j+1<f.length
    .rw [if_pos ej]at G;have:=J (j+1) ej;omega
    .rw [if_neg ej,if_pos om]at G;omega
  .rw [if_pos hi2,if_neg (show ¬ j<(pfx rs (l+1)).length by omega),if_pos (show j=(pfx rs (l+1)).length by omega),if_neg hj2,if_pos (show j=f.length by omega)];constructor
   .intro e;exact absurd (e ▸ Qbr (Ut u) hi2) hn
   .rintro ⟨o,_⟩;omega
  .rw [if_neg hi2,if_pos (show i=(pfx rs (l+2)).length by omega),if_neg (show ¬ j<(pfx rs (l+1)).length by omega),if_pos (show j=(pfx rs (l+1)).length by omega),if_neg hj2,if_pos (show j=f.length by omega),take_take'];exact ⟨λ_=>⟨om,λe=>om⟩,λ_=>rfl⟩
def Chl(rs:List Row)(l:Nat)(f:List Nat): Prop:=f.length=(pfx rs (l+1)).length+1/\(∀ j,j<f.length->f.getD j 0<=(pfx rs (l+2)).length) /\
 ∀ j i,j+1<f.length->i<(pfx rs (l+2)).length->(((pfx rs (l+2)).getD i []).take (l+1)=(pfx rs (l+1)).getD j []↔f.getD j 0<=i/\i<f.getD (j+1) 0)
theorem Fst.close{rs:List Row}{l:Nat}{f:List Nat}(hF:Fst rs l f): Chl rs l (f++[(pfx rs (l+2)).length]):=by
 obtain ⟨J,G,C⟩:=hF;refine ⟨by simp [J],λj u=>?_,λj i u hi=>?_⟩
 .rw [List.length_append,List.length_singleton]at u;rw [Gn];by_cases hj2:j<f.length
  .rw [if_pos hj2];exact G j hj2
  .rw [if_neg hj2,if_pos om];exact Nat.le_refl _
 .rw [List.length_append,List.length_singleton]at u;rw [Gn 0,Gn 0,if_pos om,C j i om hi];by_cases ej:j+1<f.length
  .rw [if_pos ej];exact ⟨λo=>⟨o.1,o.2 ej⟩,λo=>⟨o.1,λ_=>o.2⟩⟩
  .rw [if_neg ej,if_pos om];exact ⟨λo=>⟨o.1,hi⟩,λo=>⟨o.1,λe=>absurd e ej⟩⟩
theorem Fst.nil(l:Nat): Fst [] l []:=⟨rfl,λj o=>by simp at o,λj i o=>by simp at o⟩
theorem Jrf{rs:List Row}{x:Row}{d l:Nat}(h:Lt [] (rs++[x]))(hl:∀ r∈rs++[x],r.length=d)(hd:l<d): lvl (rs++[x]) l=if l+1<=stp rs x then lvl rs l else lvl rs l++[x.getD l V0]:=by
 unfold lvl;rw [Ic h hl om];split
 .rfl
 .rw [List.map_append];have:x.length=d:=hl x (by simp);simp [List.getD]
end Go.Proofs.YtebcagekopgdhaaGreatDoor
