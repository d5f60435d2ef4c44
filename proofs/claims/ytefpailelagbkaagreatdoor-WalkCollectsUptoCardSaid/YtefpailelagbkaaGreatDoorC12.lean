/- Part 12 of the proof: Rel5, Chk, Chk2. -/
import Derived.Test.YtefpailelagbkaaGreatDoorC11
set_option linter.unusedVariables false
set_option maxRecDepth 100000
set_option maxHeartbeats 40000000
namespace Go.Proofs.YtefpailelagbkaaGreatDoor
open Go.RowKit Pl Go.Wk
attribute [local irreducible] WC WL QX WD WDB WP
theorem Jnv{w:World}{v vc:Value}{r:Row}{cs:List Nat}(h:RowV w v r)(hc:IntsV w vc (nz cs))(hlt:∀ c∈cs,c<r.length): Ret Tryz.prog 191 [v,vc] w λu w'=>Ext w w'/\∃ x,u=.tuple #[x,.int .i64 0]/\Off (λk=>k<w.heap.size) w' (λy=>RowV y x (pmR cs r)):=by
 obtain ⟨A,ac,rfl,ah,ag,aa⟩:=h;obtain ⟨C,cc,rfl,ae,ab,J⟩:=hc;rw [Jqc]at *;refine Jjc Tryz.func191 Tryz.ntmps191 rfl kr rfl ?_;refine ρ ?_;refine Jqq (fun (k:Nat)=>[(0,.slice A r.length ac),(1,.slice C cs.length cc),(10,.int .i64 (cs.length:Int)),(11,.int .i64 (k:Int))]) (λk w'=>w'=w/\k<=cs.length) (λk=>cs.length-k) 0 sB ⟨rfl,Nat.zero_le _⟩ ?_;rintro k w' ⟨rfl,hk⟩;refine ρ ?_;refine ci (λh=>?_) (λh=>?_)
 .have lk:k<cs.length:=by have:=oT h;omega
  have af:=hlt _ (getD_mem' 0 cs lk);refine ρ ?_;refine ix k J lk ?_;refine ρ ?_;refine ld (J.cell (Jxs lk)) ?_;refine ρ ?_;refine kf 19 ?_ ?_
  .exact dF om
  refine ρ ?_;refine ix k J lk ?_;refine ρ ?_;refine ld (J.cell (Jxs lk)) ?_;refine ρ ?_;refine cf ?_ ?_
  .exact dF om
  refine ρ ?_;exact Jjv (k+1) sO ⟨rfl,om⟩ om
 refine ρ ?_;refine mkn EV cs.length om (by unfold maxLen;omega) ?_;intro w4 O a6 a4 hO;rw [Jlh]at a4;have a3:Jtq w4 w'.heap.size (.slice O cs.length cs.length) ([]++List.replicate cs.length V0):=by
  rw [Jtq,List.nil_append,List.length_replicate];exact a4
 refine ρ ?_;refine Jqq (fun (i:Nat)=>[(0,.slice A r.length ac),(1,.slice C cs.length cc),(7,.slice O cs.length cs.length),(33,.int .i64 (cs.length:Int)),(34,.int .i64 (i:Int))])
  (λi w5=>i<=cs.length/\Ext w' w5/\Jtq w5 w'.heap.size (.slice O cs.length cs.length) ((pmR cs r).take i++List.replicate (cs.length-i) V0)) (λi=>cs.length-i) 0 sB
  ⟨Nat.zero_le _,a6,a3⟩ ?_
 rintro i w5 ⟨hi,U,o⟩;have G:((pmR cs r).take i++List.replicate (cs.length-i) V0).length=cs.length:=by simp [Jqx];omega
 rw [Jtq,G]at o;refine ρ ?_;refine ci (λh0=>?_) (λh0=>?_)
 .have li:i<cs.length:=by have:=oT h0;omega
  have Z:=J.ext U;have a1:RdR w5 A r:=Rd.ext aa U;have lc:=hlt _ (getD_mem' 0 cs li);refine ρ ?_;refine ix i Z li ?_;refine ρ ?_;refine ld (Z.cell (Jxs li)) ?_;refine ρ ?_;refine ixq 3 (cs.getD i 0) a1 lc ?_;refine ρ ?_;refine lds (λj u hu=>RdR.cell a1 lc hu) ?_;refine ρ ?_;refine ixq 3 i (Rd.own o) li ?_;refine ρ ?_;refine stoE (cs:=(r.getD (cs.getD i 0) V0).cells) o li ?_ (V.one _);intro w6 a7 a9;have a5:Ext w' w6:=Jjk U a9 (λk hk=>by
   obtain ⟨_,_,e,_,hf⟩:=Jjd o;exact (hf k hk).1)
  refine ρ ?_;refine Jjv (i+1) sO ⟨om,a5,?_⟩ om;have e:((pmR cs r).take i++List.replicate (cs.length-i) V0).set i (r.getD (cs.getD i 0) V0)=(pmR cs r).take (i+1)++List.replicate (cs.length-(i+1)) V0:=by
   have hl:((pmR cs r).take i).length=i:=by simp [Jqx];omega
   rw [List.set_append_right _ _ om,hl,Nat.sub_self,show cs.length-i=(cs.length-(i+1))+1 by omega,List.replicate_succ,List.set_cons_zero,List.take_succ_eq_append_getElem (by rw [Jqx];omega),List.append_assoc];rw [<-Jsc li,Jjh V0 _ (by rw [Jqx];omega)];rfl
  have a2:((pmR cs r).take (i+1)++List.replicate (cs.length-(i+1)) V0).length=cs.length:=by rw [<-e];simp [Jqx];omega
  rw [Jtq,a2,<-e,Jrx _ _ _ (by rw [G];omega)];exact a7
 .have a8:i=cs.length:=by have:=oF h0;omega
  subst a8;rw [Nat.sub_self,List.replicate_zero,List.append_nil,List.take_of_length_le (by rw [Jqx];omega)]at o;refine ρ ?_;refine Qyg ⟨U,_,rfl,?_⟩;obtain ⟨_,_,_,_,hf⟩:=Jjd o;intro y hg;refine ⟨O,cs.length,by rw [Jqx],by rw [Jqx];omega,by rw [Jqx];omega,?_⟩;rw [RdR,Jqx];refine Qxm (Rd.own o) hg λ_ ad e=>?_;subst e;have:=(hf ad.block rfl).1;omega
theorem Jbx{w:World}{v vc:Value}{ar:Nat}{ls:List Row}{cs:List Nat}(h:RelV w v ar ls)(hc:IntsV w vc (nz cs))(hlen:∀ r∈ls,r.length=ar)(hlt:∀ c∈cs,c<ar)(h32:cs.length<=32)(hbig:ls.length<=65536):
  Ret Tryz.prog 177 [v,vc] w λu w'=>Ext w w'/\∃ rv,u=.tuple #[rv,.int .i64 0]/\(∃ z B m d,rv=.agg #[.int .i64 z,.slice B m d])/\∃ m,Off (λk=>k<w.heap.size) w' (λx=>RelV x rv cs.length m)/\m.length<=65536/\(∀ x∈m,x∈ls.map (pmR cs))/\((ls.length<=12∨Srt [] (ls.map (pmR cs)))->IsSet [] (ls.map (pmR cs)) m):=by
 obtain ⟨rv,rfl,ps,A,c,rfl,rfl,bf,b4,hR,ak⟩:=h;obtain ⟨C,cc,rfl,bh,bg,b7⟩:=id hc;generalize hn:ps.length=n at *
 rw [List.length_map,hn]at hbig;have af:∀ p∈ps,p.2.length=ar:=λp hp=>hlen _ (List.mem_map.2 ⟨p,hp,rfl⟩);rw [Jqc]at *;refine Jjc Tryz.func177 Tryz.ntmps177 rfl kr rfl ?_;refine ρ ?_;refine bx ?_;intro w1 b1 a1 bi be;refine ρ ?_;refine alc Qnq ?_;intro w2 b2 aj b9 bd;have a7:=a1.trans aj;have aa:=be.ext aj;refine ρ ?_;refine cf ?_ ?_
 .exact dF om
 refine ρ ?_;refine Jqq (fun (k:Nat)=>[(1,.slice C cs.length cc),(2,.pointer (some ⟨b1,0,none⟩)),(4,.pointer (some ⟨b2,0,none⟩)),(14,.int .i64 (cs.length:Int)),(15,.int .i64 (k:Int))]) (λk w'=>Ext w2 w'/\k<=cs.length) (λk=>cs.length-k) 0 sB ⟨Ext.refl _,Nat.zero_le _⟩ ?_;rintro k w3 ⟨a4,hk⟩;refine ρ ?_;refine ci (λh=>?_) (λh=>?_)
 .have lk:k<cs.length:=by have:=oT h;omega
  have ap:=hlt _ (getD_mem' 0 cs lk);clear h;refine ρ ?_;refine dr [(0,0),(0,1),(0,2),(0,3),(0,4),(0,5),(0,6),(0,7),(0,8),(0,9),(0,10),(0,11),(0,12),(0,13)] kr ?_;have ab:=a4.drew;have G:=b7.ext (a7.trans ab);refine ρd ?_;refine dix k G lk ?_;refine ρd ?_;refine dld (G.cell (Jxs lk)) ?_;refine ρd ?_;refine dkf 23 ?_ ?_
  .exact dF om
  refine ρd ?_;refine dix k G lk ?_;refine ρd ?_;refine dld (G.cell (Jxs lk)) ?_;refine ρd ?_;refine dld ((aa.ext ab).at (i:=0) rfl) ?_;refine ρd ?_;refine ρ ?_;refine cf ?_ ?_
  .exact dF om
  refine ρ ?_;exact Jjv (k+1) sO ⟨ab,om⟩ om
 clear h hk;have U:=a7.trans a4;have a9:=aa.ext a4;refine ρ ?_;refine ld (a9.at (i:=1) rfl) ?_;refine ρ ?_;refine mkn ER n om (by unfold maxLen;omega) ?_;intro w4 O aw ae hO;have a5:∀ k,(Value.slice O n n).ownBlock=some k->w3.heap.size<=k/\k<w4.heap.size:=by
  obtain ⟨_,_,e,_,hf⟩:=Jjd ae;exact hf
 have ba:Dat w4 w3.heap.size (.slice O n n) ([]++List.replicate n (.slice none 0 0,[])):=by
  refine ⟨?_,λp hp=>?_⟩
  .rw [List.nil_append,List.length_replicate,Pr.rep];have e:(madeCells (Value.slice none 0 0).cells (n*1)).toList=List.replicate n (.slice none 0 0):=by rw [Nat.mul_one];exact Jlx _ _
   rw [e]at ae;exact ae
  .rw [List.nil_append]at hp;rw [(List.mem_replicate.1 hp).2];rfl
 obtain ⟨N,hN⟩:∃ N:Nat->Prop,N=λk=>k<w3.heap.size∨(Value.slice O n n).ownBlock=some k:=⟨_,rfl⟩;refine ρ ?_;refine Jjt (fun (k:Nat) (J:List Pr)=>[(1,.slice C cs.length cc),(2,.pointer (some ⟨b1,0,none⟩)),(4,.pointer (some ⟨b2,0,none⟩)),(7,.slice O n n),(39,.int .i64 (n:Int)),(40,.int .i64 (k:Int))])
  (λk J w5=>k<=n/\J.length=k/\J.map (·.2)=(ps.take k).map (λp=>pmR cs p.2)/\Ext w3 w5/\w4.heap.size<=w5.heap.size/\Dat w5 w3.heap.size (.slice O n n) (J++List.replicate (n-k) (.slice none 0 0,[]))/\(∀ p∈J,Off N w5 (λu=>RowV u p.1 p.2))) (λk _=>n-k) 0 [] sB
  ⟨Nat.zero_le _,rfl,rfl,aw,Nat.le_refl _,ba,λp hp=>(by cases hp)⟩ ?_
 rintro k J w5 ⟨hk,ad,ac,Z,a8,a2,aq⟩;have o:=U.trans Z;refine ρ ?_;refine ci (λh=>?_) (λh=>?_)
 .have lk:k<n:=by have:=oT h;omega
  have ay:(ps.getD k z0).2.length=ar:=af _ (Jkr hn lk);refine ρ ?_;refine ld ((a9.ext Z).at (i:=1) rfl) ?_;refine ρ ?_;refine ix k (hR.ext o) lk ?_;refine ρ ?_;refine ld (Qbz (hR.ext o) hn lk) ?_;refine ρ ?_;refine cl (Jnv ((ak _ (Jkr hn lk)).ext o) (hc.ext o) (λc ap=>by rw [ay];exact hlt c ap)) ?_;rintro u w6 ⟨a3,x,rfl,am⟩;have ah:=a2.ext a3;have ag:(J++List.replicate (n-k) ((.slice none 0 0,[]):Pr)).length=n:=by simp;omega
  have a1:x.oneCell'=true:=am.here.one;obtain ⟨s1,s2,s3⟩:=ah.store ag lk (p:=(x,pmR cs (ps.getD k z0).2)) a1;refine ρ ?_;refine ix k (ah.rd ag) lk ?_;refine ρ ?_;refine sto (ah.cell ag lk) s1 ?_ (hv:=a1);refine ρ ?_;have e:(J++List.replicate (n-k) ((.slice none 0 0,[]):Pr)).set k (x,pmR cs (ps.getD k z0).2)=(J++[(x,pmR cs (ps.getD k z0).2)])++List.replicate (n-(k+1)) (.slice none 0 0,[]):=by
   rw [show n-k=(n-(k+1))+1 by omega,List.replicate_succ,List.set_append_right _ _ om,ad,Nat.sub_self,List.set_cons_zero,List.append_assoc];rfl
  rw [e]at s2;have au:∀ j,(Value.slice O n n).ownBlock=some j->N j:=λj ej=>by rw [hN];exact .inr ej
  refine Jjj (k+1) (J++[(x,pmR cs (ps.getD k z0).2)]) sO ⟨om,by simp [ad],?_,Jjk (Z.trans a3) s3 (λj hj=>(a5 j hj).1),Nat.le_trans a8 (nL a3.size s3.size),s2,λp hp=>?_⟩ om
  .rw [List.map_append,ac,Jjm z0 om,List.map_append];rfl
  .rcases List.mem_append.1 hp with h'|h'
   .exact ((aq p h').ext a3).grown s3 au
   .rw [List.mem_singleton.1 h'];refine (am.mono λj _ hj=>?_).grown s3 au;rw [hN]at hj;rcases hj with h'|h'
    .exact nM h' Z.size
    .exact nM (a5 j h').2 a8
 .have e:k=n:=by have:=oF h;omega
  subst e;rw [Nat.sub_self,List.replicate_zero,List.append_nil]at a2;rw [List.take_of_length_le om]at ac;have b5:J.map (·.2)=(ps.map (·.2)).map (pmR cs):=by rw [ac,List.map_map];rfl
  refine ρ ?_;refine cl (Qxd (ar:=cs.length) a2 ad b4 (Nat.le_refl _) (λp hp=>(aq p hp).mono λj _ hj=>by rw [hN];exact .inr hj)) ?_;rintro u w7 ⟨an,rv,e,rfl,⟨z,B,m,d',ax⟩,ao,b3⟩;have he:=ao hbig;subst he;have ai:Ext w w7:=Jjk o an (λj ej=>nL U.size (a5 j ej).1);have a6:=(bd.ext a4).ext Z;have bc:=a6.grown an (a6.ne_own a2.1 rfl);subst ax;refine ρ ?_;refine stb bc ?_ (Qvn (z:=z) (A:=B) (n:=m) (c:=d'));intro w8 bb b6 av;refine ρ ?_;obtain ⟨ms,m1,m2,m3,m4⟩:=b3 rfl;rw [b5]at m3 m4;refine Jyb bb ⟨av w ai (nL a1.size b9),_,rfl,⟨z,B,m,d',rfl⟩,ms,?_,m2,m3,λhc=>m4 (by rw [List.length_map,hn]at hc;exact hc)⟩;have b8:b2<w5.heap.size/\(Value.slice O k k).ownBlock≠some b2:=⟨a6.lt,λe=>a6.ne_own a2.1 rfl e.symm⟩;refine (m1.grown b6 (λj ej=>by injection ej with ej;rw [<-ej];exact b8)).mono λj _ hj=>⟨nM hj o.size,λe=>?_⟩;have:=(a5 j e).1;have:=U.size;omega
open Go.RowKit Pl Go.Wk
structure Atm where
 vars: List Int
 ar:Nat
 rows:List Row
abbrev V3:= Value×Value×Value
def V3.cells(t:V3): List Value:=[t.1,t.2.1,t.2.2]
def AtV(w:World)(t:V3)(a:Atm): Prop:=IntsV w t.1 a.vars/\t.2.1=.int .i64 (a.ar:Int)/\RowsV w t.2.2 a.rows
theorem AtV.ext{w w':World}{t:V3}{a:Atm}(h:AtV w t a)(hx:Ext w w'): AtV w' t a:=⟨h.1.ext hx,h.2.1,h.2.2.ext hx⟩
theorem AtV.rel{w:World}{t:V3}{a:Atm}(h:AtV w t a): RelV w (.agg #[t.2.1,t.2.2]) a.ar a.rows:=⟨t.2.2,by rw [h.2.1],h.2.2⟩
theorem AtV.one{w:World}{t:V3}{a:Atm}(h:AtV w t a): ∀ u∈t.cells,u.oneCell'=true:=by
 obtain ⟨⟨A,c,C,_⟩,o,⟨ps,B,d,_,j,_⟩⟩:=h;intro u i;simp only [V3.cells,List.mem_cons,List.not_mem_nil,or_false]at i;rcases i with rfl|rfl|rfl
 .rw [C];rfl
 .rw [o];rfl
 .rw [j];rfl
def v30: V3:=(undef,undef,undef)
def a0: Atm:=⟨[],0,[]⟩
abbrev TA:= V3×Atm
def ta0: TA:=(v30,a0)
def atC(ts:List TA): List Value:=ts.flatMap λp=>p.1.cells
theorem Qnc: ∀ (r:List TA) (i j:Nat),i<r.length->j<3->(atC r)[i*3+j]?=(r.getD i ta0).1.cells[j]?
 | [],i,j,h,_=>by simp at h
 | v::r,0,j,_,hj=>by
  simp only [atC,List.flatMap_cons,Nat.zero_mul,Nat.zero_add,List.getD_cons_zero];rw [List.getElem?_append_left (by simp [V3.cells];omega)]
 | v::r,i+1,j,h,hj=>by
  have ih:=Qnc r i j (by simpa using h) hj;simp only [atC,List.flatMap_cons,List.getD_cons_succ]at ih ⊢;rw [List.getElem?_append_right (by simp [V3.cells];omega),<-ih];congr 1
  simp [V3.cells];omega
def AtsV(w:World)(v:Value)(ats:List Atm): Prop:=∃ (ts:List TA) (A:Option Addr) (c:Nat),ats=ts.map (·.2)/\v=.slice A ts.length c/\ts.length<=c/\ts.length<=1100000/\Rd w 3 A ts.length (atC ts)/\∀ p∈ts,AtV w p.1 p.2
theorem AtsV.ext{w w':World}{v:Value}{ats:List Atm}(h:AtsV w v ats)(hx:Ext w w'): AtsV w' v ats:=by
 obtain ⟨ts,A,c,J,G,C,u,o,j⟩:=h;exact ⟨ts,A,c,J,G,C,u,o.ext hx,λp i=>(j p i).ext hx⟩
theorem Jnn{w:World}{A:Option Addr}{n:Nat}{ts:List TA}(hR:Rd w 3 A n (atC ts))(hn:ts.length=n){i j:Nat}{u:Value}(hi:i<n)(hu:(ts.getD i ta0).1.cells[j]?=some u): w.cell? ((adr A (i*3)).add j)=some u:=by
 have o:j<3:=by have:=(List.getElem?_eq_some_iff.1 hu).1;simpa [V3.cells] using this
 rw [Jqw];exact hR.cell (by rw [Qnc ts i j om o];exact hu)
theorem Jhw{ts:List TA}{n:Nat}(hn:ts.length=n){i:Nat}(hi:i<n): ts.getD i ta0∈ts:=getD_mem' ta0 ts (hn.symm ▸ hi)
def ascB(zs:List Int): Prop:=∀ j,0<j->j<zs.length->zs.getD (j-1) 0<zs.getD j 0
def Xbp(n:Int)(a:Atm): Prop:=ascB a.vars/\(∀ v∈a.vars,0<=v/\v<n)/\a.vars.length=a.ar
def Xyq(n:Int)(ats:List Atm): Prop:=0<=n/\n<=32/\ats.length<=32/\(∀ a∈ats,Xbp n a)/\∀ v:Nat,(v:Int)<n->∃ a∈ats,(v:Int)∈a.vars
theorem Jsr{w:World}{A:Option Addr}{c:Nat}{bs:List Bool}{t:Bool}(hR:RdB w A bs)(hm:bs.length<=1100000): Ret Tryz.prog 164 [.slice A bs.length c,.bool t] w λu w'=>w'=w/\∃ z,u=.int .i64 z/\(0<=z↔t∈bs):=by
 refine Jjc Tryz.func164 Tryz.ntmps164 rfl kr rfl ?_;refine ρ ?_;refine Jqq (fun (k:Nat)=>[(0,.slice A bs.length c),(1,.bool t),(7,.int .i64 (bs.length:Int)),(8,.int .i64 (k:Int))]) (λk w'=>w'=w/\k<=bs.length/\t ∉ bs.take k) (λk=>bs.length-k) 0 sB ⟨rfl,Nat.zero_le _,by simp⟩ ?_;rintro k w' ⟨rfl,o,i⟩;refine ρ ?_;refine ci (λh=>?_) (λh=>?_)
 .have lk:k<bs.length:=by have:=oT h;omega
  refine ρ ?_;refine ix k hR lk ?_;refine ρ ?_;refine ld (RdB.cell hR lk) ?_;refine eqb ?_;refine ρ ?_;refine ci (λh=>?_) (λh=>?_)
  .refine ρ ?_;refine Jjq ⟨rfl,(k:Int),rfl,⟨λ_=>?_,λ_=>om⟩⟩;rw [beq_iff_eq.1 h];exact getD_mem' false bs lk
  .refine ρ ?_;refine Jjv (k+1) sO ⟨rfl,om,?_⟩ om;rw [Jjm false lk,List.mem_append,List.mem_singleton];rintro (j|j)
   .exact i j
   .rw [<-j]at h;simp at h
 .refine ρ ?_;refine Jjq ⟨rfl,-1,rfl,⟨λe=>om,λe=>?_⟩⟩;rw [List.take_of_length_le (by have:=oF h;omega)]at i;exact absurd e i
theorem Jgv{w:World}{A:Option Addr}{c:Nat}{bs:List Bool}{t:Bool}(hR:RdB w A bs)(hm:bs.length<=1100000): Ret Tryz.prog 146 [.slice A bs.length c,.bool t] w λu w'=>w'=w/\∃ b:Bool,u=.bool b/\(b=true↔t∈bs):=by
 refine Jjc Tryz.func146 Tryz.ntmps146 rfl kr rfl ?_;refine ρ ?_;refine cl (Jsr hR hm) ?_;rintro u w' ⟨rfl,z,rfl,i⟩;refine ρ ?_;exact Jjq ⟨rfl,decide (0<=z),rfl,by rw [decide_eq_true_iff];exact i⟩
theorem Blk.at2{w:World}{g:Nat}{t:TypeId}{cs:List Value}(h:Blk w g t cs){i j:Nat}{v:Value}(hv:cs[i+j]?=some v): w.cell? ((⟨g,i,none⟩:Addr).add j)=some v:=by rw [Jzh,h.cell];exact hv
theorem Jcw: Jxd Tryz.prog 69=some (.agg #[.slice none 0 0,.int .i64 0,.slice none 0 0]):=kr
abbrev Jgw(w:World)(base:Nat)(v:Value)(bs:List Bool): Prop:=w.ownsRow base 4 1 v bs.length (bs.map Value.bool)
theorem Qmq{bs:List Bool}{i:Nat}(h:i<bs.length): (bs.map Value.bool)[i]?=some (.bool (bs.getD i false)):=by simp [List.getD,List.getElem?_eq_getElem h]
theorem Qqr(bs:List Bool)(i k:Nat)(x:Bool)(hi:i<bs.length): (bs.set i x).getD k false=if k=i then x else bs.getD k false:=Jbj false bs i k x hi
theorem Jcr{w:World}{v:Value}{n:Int}{ats:List Atm}(h:AtsV w v ats): Ret Tryz.prog 109 [.int .i64 n,v] w λu w'=>Ext w w'/\∃ e,u=.int .i64 e/\(e=0↔Xyq n ats):=by
 obtain ⟨ts,A,c,rfl,rfl,bp,bo,hR,bg⟩:=h;generalize hm:ts.length=m at *
 refine Jjc Tryz.func109 Tryz.ntmps109 rfl kr rfl ?_;refine ρ ?_;refine Jzn (fun (t:Bool)=>[(0,.int .i64 n),(1,.slice A m c),(16,.bool t)]) (λt w'=>w'=w/\(t=true↔¬ (0<=n/\n<=32))) ?_ ?_
 .refine ki 13 (λh=>?_) (λh=>?_)
  .refine ρ ?_;exact Jjn true sB ⟨rfl,by have:=oT h;simp;omega⟩
  .refine ρ ?_;refine Jjn _ sB ⟨rfl,?_⟩;have:=oF h;rw [decide_eq_true_iff];omega
 rintro t w' ⟨rfl,ht⟩;refine ci (λh=>?_) (λh=>?_)
 .refine ρ ?_;exact Jjq ⟨Ext.refl _,3,rfl,⟨λe=>(by cases e),λe=>absurd ⟨e.1,e.2.1⟩ (ht.1 h)⟩⟩
 have hn:0<=n/\n<=32:=by
  by_cases hz:0<=n/\n<=32
  .exact hz
  .rw [ht.2 hz]at h;cases h
 obtain ⟨bc,bn⟩:=hn;obtain ⟨N,rfl⟩:=Int.eq_ofNat_of_zero_le bc;clear h ht;refine ρ ?_;refine ci (λh=>?_) (λh=>?_)
 .refine ρ ?_;refine Jjq ⟨Ext.refl _,12,rfl,⟨λe=>(by cases e),λe=>?_⟩⟩;have h1:=e.2.2.1;rw [List.length_map,hm]at h1;have:=oT h;omega
 have bm:m<=32:=by have:=oF h;omega
 clear h;refine ρ ?_;refine mkn EB N om (by unfold maxLen;omega) ?_;intro w1 O b9 aw hO;have av:Jgw w1 w'.heap.size (.slice O N N) (List.replicate N false):=by
  rw [Jgw,List.length_replicate,List.map_replicate];have e:(madeCells (Value.bool false).cells (N*1)).toList=List.replicate N (Value.bool false):=by rw [Nat.mul_one];exact Jlx _ _
  rw [e]at aw;exact aw
 refine ρ ?_;refine Jjt (fun (i:Nat) (J:List Bool)=>[(0,.int .i64 (N:Int)),(5,.slice O N N),(22,.slice A m c),(23,.int .i64 (m:Int)),(24,.int .i64 (i:Int))])
  (λi J w2=>i<=m/\Ext w' w2/\J.length=N/\Jgw w2 w'.heap.size (.slice O N N) J/\(∀ j,j<i->Xbp N (ts.getD j ta0).2)/\∀ v:Nat,v<N->(J.getD v false=true↔∃ j,j<i/\(v:Int)∈(ts.getD j ta0).2.vars)) (λi _=>m-i) 0 (List.replicate N false) sB
  ⟨Nat.zero_le _,b9,by simp,av,λj hj=>om,λv hv=>⟨λe=>by simp [List.getD,hv]at e,λ⟨j,hj,_⟩=>om⟩⟩ ?_
 rintro i J w2 ⟨hi,ab,Z,ag,ap,o⟩;refine ρ ?_;refine ci (λh=>?_) (λh=>?_)
 .have li:i<m:=by have:=oT h;omega
  have b4:=hR.ext ab;obtain ⟨t1,t2,t3,a,hp⟩:∃ t1 t2 t3 a,ts.getD i ta0=((t1,t2,t3),a):=⟨_,_,_,_,rfl⟩;have aj:AtV w' (t1,t2,t3) a:=by have:=bg _ (Jhw hm li);rw [hp]at this;exact this
  have ax:a∈ts.map (·.2):=List.mem_map.2 ⟨_,Jhw hm li,by rw [hp]⟩
  clear h;obtain ⟨⟨D,d,e1,hd,br,b2⟩,e2,af⟩:=id aj;simp only at e1 e2;subst e1;subst e2;obtain ⟨ps,G,gc,_,ao,_⟩:=id af;simp only at ao;subst ao;refine ρ ?_;refine ixq 3 i b4 li ?_;refine ρ ?_;refine lds (cs:=[.slice D a.vars.length d,.int .i64 (a.ar:Int),.slice G ps.length gc]) (λj u hu=>Jnn b4 hm li (by rw [hp];exact hu)) ?_;refine ρ ?_;refine alc Jcw ?_;intro w3 b b8 hb hB;refine ρ ?_;refine stb hB ?_ aj.one;intro w4 ai bq b7;have ad:Ext w2 w4:=b7 w2 b8 hb;have a5:=ab.trans ad;have au:=Jjb ag ad;have a1:¬ Xbp N a->¬ Xyq N (ts.map (·.2)):=λh1 h2=>h1 (h2.2.2.2.1 a ax)
  refine ρ ?_;refine Jqq (fun (k:Nat)=>[(0,.int .i64 (N:Int)),(5,.slice O N N),(22,.slice A m c),(23,.int .i64 (m:Int)),(24,.int .i64 (i:Int)),(7,.pointer (some ⟨b,0,none⟩)),(8,.int .i64 (k:Int))])
   (λk w5=>Ext w4 w5/\1<=k/\(k<=a.vars.length∨k=1)/\∀ j,0<j->j<k->a.vars.getD (j-1) 0<a.vars.getD j 0) (λk=>a.vars.length-k) 1 sB ⟨Ext.refl _,Nat.le_refl _,.inr rfl,λj h1 h2=>om⟩ ?_
  rintro k w5 ⟨aa,bf,be,a7⟩;have ac:=ai.ext aa;refine ρ ?_;refine ld (ac.at (i:=0) rfl) ?_;refine ρ ?_;refine ci (λh=>?_) (λh=>?_)
  .have lk:k<a.vars.length:=by have:=oT h;omega
   have ak:k-1<a.vars.length:=om
   clear h;refine ρ ?_;refine dr [(0,0),(0,1),(0,2),(0,3),(0,4),(0,5),(0,6),(0,7),(0,8),(0,9),(0,10),(0,11)] kr ?_;have a2:=aa.drew;have a4:=ai.ext a2;have C:=b2.ext (a5.trans a2);refine ρd ?_;refine dld (a4.at (i:=0) rfl) ?_;refine ρd ?_;refine dix (k-1) C ak ?_;refine ρd ?_;refine dld (C.cell (Jdh ak)) ?_;refine ρd ?_;refine dld (a4.at (i:=0) rfl) ?_;refine ρd ?_;refine dix k C lk ?_;refine ρd ?_;refine dld (C.cell (Jdh lk)) ?_;refine ρd ?_;refine ρ ?_;refine ci (λh=>?_) (λh=>?_)
   .refine ρ ?_;refine Jjq ⟨a5.trans a2,16,rfl,⟨λe=>(by cases e),λe=>absurd e (a1 λh1=>?_)⟩⟩;have:=h1.1 k om lk;have:=oT h;omega
   .refine ρ ?_;refine Jjv (k+1) sO ⟨a2,om,om,λj h1 h2=>?_⟩ om;by_cases U:j=k
    .subst U;have:=oF h;omega
    .exact a7 j h1 om
  have ah:ascB a.vars:=λj h1 h2=>a7 j h1 (by have:=oF h;omega);clear h a7 bf be;have an:=a5.trans aa;have aq:=Jjb au aa;refine ρ ?_;refine ld (ac.at (i:=0) rfl) ?_;refine ρ ?_;refine Jjt (fun (q:Nat) (J:List Bool)=>[(0,.int .i64 (N:Int)),(5,.slice O N N),(22,.slice A m c),(23,.int .i64 (m:Int)),(24,.int .i64 (i:Int)),(7,.pointer (some ⟨b,0,none⟩)),(48,.slice D a.vars.length d),(49,.int .i64 (a.vars.length:Int)),(50,.int .i64 (q:Int))])
   (λq J w6=>q<=a.vars.length/\Ext w' w6/\J.length=N/\Jgw w6 w'.heap.size (.slice O N N) J/\Blk w6 b 69 [.slice D a.vars.length d,.int .i64 (a.ar:Int),.slice G ps.length gc]/\(∀ j,j<q->0<=a.vars.getD j 0/\a.vars.getD j 0<N)/\∀ v:Nat,v<N->(J.getD v false=true↔(∃ j,j<i/\(v:Int)∈(ts.getD j ta0).2.vars)∨∃ j,j<q/\a.vars.getD j 0=(v:Int))) (λq _=>a.vars.length-q) 0 J sB
   ⟨Nat.zero_le _,an,Z,aq,ac,λj hj=>om,λv hv=>⟨λe=>.inl ((o v hv).1 e),λe=>(o v hv).2 (e.elim id λ⟨j,hj,_⟩=>om)⟩⟩ ?_
  clear ag au aq ac ai o Z;rintro q J w6 ⟨hq,a9,Z,a3,a4,b1,o⟩;refine ρ ?_;refine ci (λh=>?_) (λh=>?_)
  .have lq:q<a.vars.length:=by have:=oT h;omega
   have C:=b2.ext a9;have ba:a.vars.getD q 0∈a.vars:=getD_mem' 0 _ lq;clear h;refine ρ ?_;refine ix q C lq ?_;refine ρ ?_;refine ld (C.cell (Jdh lq)) ?_;refine ρ ?_;generalize hz:a.vars.getD q 0=z at *
   refine Jzn (fun (t:Bool)=>[(0,.int .i64 (N:Int)),(5,.slice O N N),(22,.slice A m c),(23,.int .i64 (m:Int)),(24,.int .i64 (i:Int)),(7,.pointer (some ⟨b,0,none⟩)),(48,.slice D a.vars.length d),(49,.int .i64 (a.vars.length:Int)),(50,.int .i64 (q:Int)),(10,.int .i64 z),(60,.bool t)]) (λt w7=>w7=w6/\(t=true↔¬ (0<=z/\z<N))) ?_ ?_
   .refine ki 56 (λh=>?_) (λh=>?_)
    .refine ρ ?_;exact Jjn true sB ⟨rfl,by have:=oT h;simp;omega⟩
    .refine ρ ?_;refine Jjn _ sB ⟨rfl,?_⟩;have:=oF h;rw [decide_eq_true_iff];omega
   rintro t w7 ⟨rfl,ht⟩;refine ci (λh=>?_) (λh=>?_)
   .refine ρ ?_;exact Jjq ⟨a9,3,rfl,⟨λe=>(by cases e),λe=>absurd e (a1 λh1=>ht.1 h (h1.2.1 z ba))⟩⟩
   have am:0<=z/\z<N:=by
    by_cases hz:0<=z/\z<N
    .exact hz
    .rw [ht.2 hz]at h;cases h
   obtain ⟨x,rfl⟩:=Int.eq_ofNat_of_zero_le am.1;have lx:x<N:=om
   rw [Jgw,Z]at a3;obtain ⟨s1,s2,s3,s4,s5⟩:=Jqm a3 (q:=x) om (.bool true);refine ρ ?_;refine ix x (Rd.own a3) lx ?_;refine ρ ?_;refine sto (s1.trans (Qmq om)) s2 ?_;refine ρ ?_;refine Jjj (q+1) (J.set x true) sO ⟨om,Jjk a9 s5 (λk hk=>by
    obtain ⟨_,_,_,_,hf⟩:=Jjd a3;exact (hf k hk).1),by simpa using Z,?_,a4.grown s5 (a4.ne_own a3 rfl),λj hj=>?_,λv hv=>?_⟩ om
   .rw [Jgw,List.length_set,Z,List.map_set];exact s3
   .by_cases U:j=q
    .subst U;rw [hz];exact am
    .exact b1 j om
   .rw [Qqr _ _ _ _ om];by_cases ev:v=x
    .subst ev;rw [if_pos rfl];exact ⟨λ_=>.inr ⟨q,om,hz⟩,λ_=>rfl⟩
    .rw [if_neg ev,o v hv];constructor
     .rintro (h'|⟨j,hj,U⟩)
      .exact .inl h'
      .exact .inr ⟨j,om,U⟩
     .rintro (h'|⟨j,hj,U⟩)
      .exact .inl h'
      .by_cases e2:j=q
       .subst e2;rw [hz]at U;omega
       .exact .inr ⟨j,om,U⟩
  .have eq:q=a.vars.length:=by have:=oF h;omega
   clear h;have ay:∀ v∈a.vars,0<=v/\v<N:=λv hv=>by
    obtain ⟨j,hj,rfl⟩:=List.getElem_of_mem hv;have:=b1 j om;rw [Jjh 0 _ hj]at this;exact this
   refine ρ ?_;refine dr [(0,0),(0,1),(0,2),(0,3),(0,4),(1,5),(0,6)] kr ?_;have a6:=a9.drew;have b5:=a4.ext (Ext.refl w6).drew;have bj:=aj.ext a6;refine ρd ?_;refine dld (b5.at (i:=0) rfl) ?_;refine ρd ?_;refine Jvb (cs:=[.int .i64 (a.ar:Int),.slice G ps.length gc]) (λj u hu=>Blk.at2 b5 (i:=0+1) (by rw [Nat.add_comm];simpa using hu)) ?_;refine ρd ?_;refine dcl (Jyn bj.rel) ?_;rintro u w8 ⟨rfl,a8⟩;refine ⟨a8,?_⟩;refine ρd ?_;refine ρ ?_;refine ci (λh=>?_) (λh=>?_)
   .refine ρ ?_;refine Jjq ⟨a6.trans a8,6,rfl,⟨λe=>(by cases e),λe=>absurd e (a1 λh1=>?_)⟩⟩;have:=Jkx h;have:=h1.2.2;omega
   .refine ρ ?_;have bh:a.vars.length=a.ar:=by have:=Jkz h;omega
    refine Jjj (i+1) J sO ⟨om,a6.trans a8,Z,Jjb (Jjb a3 (Ext.refl w6).drew) a8,λj hj=>?_,λv hv=>?_⟩ om
    .by_cases U:j=i
     .subst U;rw [hp];exact ⟨ah,ay,bh⟩
     .exact ap j om
    .rw [o v hv];constructor
     .rintro (⟨j,hj,U⟩|⟨j,hj,U⟩)
      .exact ⟨j,om,U⟩
      .refine ⟨i,om,?_⟩;rw [hp,<-U];exact getD_mem' 0 a.vars om
     .rintro ⟨j,hj,U⟩;by_cases e2:j=i
      .subst e2;have bl:(v:Int)∈a.vars:=by rw [hp]at U;exact U
       obtain ⟨y,hy,ey⟩:=List.getElem_of_mem bl;exact .inr ⟨y,om,by rw [Jjh 0 _ hy];exact ey⟩
      .exact .inl ⟨j,om,U⟩
 .have ei:i=m:=by have:=oF h;omega
  clear h;subst Z;have bi:RdB w2 O J:=Rd.own ag;have b3:∀ a∈ts.map (·.2),Xbp J.length a:=λa ha=>by
   obtain ⟨p,hp,rfl⟩:=List.mem_map.1 ha;obtain ⟨j,hj,rfl⟩:=List.getElem_of_mem hp;have:=ap j om;rw [Jjh ta0 _ hj]at this;exact this
  refine ρ ?_;refine cl (Jgv bi om) ?_;rintro u w3 ⟨rfl,t,rfl,ht⟩;refine ρ ?_;refine ci (λh=>?_) (λh=>?_)
  .refine ρ ?_;refine Jjq ⟨ab,22,rfl,⟨λe=>(by cases e),λe=>?_⟩⟩;obtain ⟨x,hx,ex⟩:=List.getElem_of_mem (ht.1 h);obtain ⟨a,ha,b6⟩:=e.2.2.2.2 x om;obtain ⟨p,hp,rfl⟩:=List.mem_map.1 ha;obtain ⟨j,hj,rfl⟩:=List.getElem_of_mem hp;have:=(o x om).2 ⟨j,om,by rw [Jjh ta0 _ hj];exact b6⟩;rw [Jjh false J hx,ex]at this;cases this
  .refine ρ ?_;refine Jjq ⟨ab,0,rfl,⟨λ_=>⟨om,om,by rw [List.length_map];omega,b3,λv hv=>?_⟩,λ_=>rfl⟩⟩;have bb:v<J.length:=om
   have ae:J.getD v false=true:=by
    cases hc:J.getD v false with
    | true=>rfl
    | false=>
     rw [Jjh false J om]at hc;have:false∈J:=by rw [<-hc];exact List.getElem_mem _
     rw [ht.2 this]at h;cases h
   obtain ⟨j,hj,bd⟩:=(o v bb).1 ae;exact ⟨_,List.mem_map.2 ⟨_,Jhw hm om,rfl⟩,bd⟩
open Go.RowKit Pl Go.Wk
structure Inp where
 n: Int
 free:Int
 desc:List Bool
 perm:List Int
 ats:List Atm
def InC(w:World)(i:Inp)(cs:List Value): Prop:=∃ vd vp va,cs=[.int .i64 i.n,.int .i64 i.free,vd,vp,va]/\BoolsV w vd i.desc/\IntsV w vp i.perm/\AtsV w va i.ats
theorem InC.ext{w w':World}{i:Inp}{cs:List Value}(h:InC w i cs)(hx:Ext w w'): InC w' i cs:=by
 obtain ⟨o,j,u,e,J,G,C⟩:=h;exact ⟨o,j,u,e,J.ext hx,G.ext hx,C.ext hx⟩
def InV(w:World)(v:Value)(i:Inp): Prop:=∃ cs,v=.agg cs.toArray/\InC w i cs
theorem InV.ext{w w':World}{v:Value}{i:Inp}(h:InV w v i)(hx:Ext w w'): InV w' v i:=by
 obtain ⟨cs,e,h⟩:=h;exact ⟨cs,e,h.ext hx⟩
def Xkh(i:Inp): Prop:=0<=i.n/\i.n<=32/\0<=i.free/\i.free<=i.n/\(i.desc.length:Int)=i.free/\(i.perm.length:Int)=i.n-i.free/\(∀ v∈i.perm,i.free<=v/\v<i.n)/\i.perm.Nodup/\Xyq i.n i.ats
theorem Jgj{w:World}{v:Value}{inp:Inp}(h:InV w v inp)(hn64:-9223372036854775808<=inp.n/\inp.n<=9223372036854775807)(hf64:-9223372036854775808<=inp.free/\inp.free<=9223372036854775807): Ret Tryz.prog 73 [v] w λu w'=>Ext w w'/\∃ e,u=.int .i64 e/\(e=0↔Xkh inp):=by
 obtain ⟨_,rfl,vd,vp,va,rfl,ae,ad,aa⟩:=h;obtain ⟨n,free,Z,perm,ats⟩:=inp;simp only at ae ad aa hn64 hf64 ⊢;obtain ⟨D,dc,rfl,b3,b2,b1⟩:=id ae;obtain ⟨G,gc,rfl,ax,aw,ao⟩:=id ad;obtain ⟨ts,A,c,_,rfl,_⟩:=id aa;refine Jjc Tryz.func73 Tryz.ntmps73 rfl kr rfl ?_;refine ρ ?_;refine bx ?_;intro w1 b a9 hb J;refine ρ ?_;refine Jzn (fun (t:Bool)=>[(1,.pointer (some ⟨b,0,none⟩)),(25,.bool t)]) (λt w'=>w'=w1/\(t=true↔¬ (0<=n/\n<=32/\0<=free/\free<=n))) ?_ ?_
 .refine ld (J.at (i:=0) rfl) ?_;refine ρ ?_;refine ki 9 (λh=>?_) (λh=>?_)
  .have:=oT h;refine ρ ?_;exact Jjn true sB ⟨rfl,by simp;omega⟩
  have h1:=oF h;refine ρ ?_;refine ld (J.at (i:=0) rfl) ?_;refine ρ ?_;refine ki 14 (λh=>?_) (λh=>?_)
  .have:=oT h;refine ρ ?_;exact Jjn true sB ⟨rfl,by simp;omega⟩
  have h2:=oF h;refine ρ ?_;refine ld (J.at (i:=1) rfl) ?_;refine ρ ?_;refine ki 19 (λh=>?_) (λh=>?_)
  .have:=oT h;refine ρ ?_;exact Jjn true sB ⟨rfl,by simp;omega⟩
  have h3:=oF h;refine ρ ?_;refine ld (J.at (i:=1) rfl) ?_;refine ρ ?_;refine ld (J.at (i:=0) rfl) ?_;refine ρ ?_;refine Jjn _ sB ⟨rfl,?_⟩;rw [decide_eq_true_iff];omega
 rintro t w' ⟨rfl,ht⟩;refine ci (λh=>?_) (λh=>?_)
 .refine ρ ?_;exact Jjq ⟨a9,3,rfl,⟨λe=>(by cases e),λe=>absurd ⟨e.1,e.2.1,e.2.2.1,e.2.2.2.1⟩ (ht.1 h)⟩⟩
 have hn:0<=n/\n<=32/\0<=free/\free<=n:=by
  by_cases hz:0<=n/\n<=32/\0<=free/\free<=n
  .exact hz
  .rw [ht.2 hz]at h;cases h
 obtain ⟨an,av,ap,ay⟩:=hn;obtain ⟨N,rfl⟩:=Int.eq_ofNat_of_zero_le an;obtain ⟨F,rfl⟩:=Int.eq_ofNat_of_zero_le ap;clear h ht;refine ρ ?_;refine ld (J.at (i:=2) rfl) ?_;refine ρ ?_;refine ld (J.at (i:=1) rfl) ?_;refine ρ ?_;refine Jzn (fun (t:Bool)=>[(1,.pointer (some ⟨b,0,none⟩)),(42,.bool t)]) (λt w2=>w2=w'/\(t=true↔¬ (Z.length=F/\perm.length+F=N))) ?_ ?_
 .refine ki 32 (λh=>?_) (λh=>?_)
  .have:=Jkx h;refine ρ ?_;exact Jjn true sB ⟨rfl,by simp;omega⟩
  have h1:=Jkz h;refine ρ ?_;refine ld (J.at (i:=3) rfl) ?_;refine ρ ?_;refine ld (J.at (i:=0) rfl) ?_;refine ρ ?_;refine ld (J.at (i:=1) rfl) ?_;refine ρ ?_;refine Jjn _ sB ⟨rfl,?_⟩;rw [bne_iff_ne];omega
 rintro t2 w2 ⟨rfl,ht⟩;refine ci (λh=>?_) (λh=>?_)
 .refine ρ ?_;refine Jjq ⟨a9,1,rfl,⟨λe=>(by cases e),λe=>absurd ?_ (ht.1 h)⟩⟩;have h5:=e.2.2.2.2.1;have h6:=e.2.2.2.2.2.1;simp only at h5 h6;omega
 have aq:Z.length=F/\perm.length+F=N:=by
  by_cases hz:Z.length=F/\perm.length+F=N
  .exact hz
  .rw [ht.2 hz]at h;cases h
 obtain ⟨b4,au⟩:=aq;clear h ht;refine ρ ?_;refine ld (J.at (i:=0) rfl) ?_;refine ρ ?_;refine mkn EB N om (by unfold maxLen;omega) ?_;intro w3 O ac ag hO;have af:Jgw w3 w2.heap.size (.slice O N N) (List.replicate N false):=by
  rw [Jgw,List.length_replicate,List.map_replicate];have e:(madeCells (Value.bool false).cells (N*1)).toList=List.replicate N (Value.bool false):=by rw [Nat.mul_one];exact Jlx _ _
  rw [e]at ag;exact ag
 refine ρ ?_;refine ld ((J.ext ac).at (i:=3) rfl) ?_;refine ρ ?_;refine Jjt (fun (i:Nat) (us:List Bool)=>[(1,.pointer (some ⟨b,0,none⟩)),(3,.slice O N N),(47,.slice G perm.length gc),(48,.int .i64 (perm.length:Int)),(49,.int .i64 (i:Int))])
  (λi us w4=>i<=perm.length/\Ext w2 w4/\us.length=N/\Jgw w4 w2.heap.size (.slice O N N) us/\(∀ v∈perm.take i,(F:Int)<=v/\v<N)/\(perm.take i).Nodup/\∀ v:Nat,v<N->(us.getD v false=true↔(v:Int)∈perm.take i)) (λi _=>perm.length-i) 0 (List.replicate N false) sB
  ⟨Nat.zero_le _,ac,by simp,af,λv hv=>by simp at hv,by simp,λv hv=>⟨λe=>by simp [List.getD,hv]at e,λe=>by simp at e⟩⟩ ?_
 rintro i us w4 ⟨hi,a8,a1,C,ab,U,a5⟩;have a4:=J.ext a8;have o:=a9.trans a8;refine ρ ?_;refine ci (λh=>?_) (λh=>?_)
 .have li:i<perm.length:=by have:=oT h;omega
  have a6:=ao.ext o;clear h;have ai:perm.getD i 0∈perm:=getD_mem' 0 perm li;have a2:perm.take (i+1)=perm.take i++[perm.getD i 0]:=Jjm 0 li;have a3:perm.Nodup->perm.getD i 0 ∉ perm.take i:=λU hm=>by
   have h1:(perm.take (i+1)).Nodup:=U.sublist (List.take_sublist _ _);rw [a2,List.nodup_append]at h1;exact h1.2.2 _ hm _ (List.mem_singleton.2 rfl) rfl
  refine ρ ?_;refine ix i a6 li ?_;refine ρ ?_;refine ld (a6.cell (Jdh li)) ?_;refine ρ ?_;refine ld (a4.at (i:=1) rfl) ?_;refine ρ ?_;generalize hz:perm.getD i 0=z at *
  refine Jzn (fun (t:Bool)=>[(1,.pointer (some ⟨b,0,none⟩)),(3,.slice O N N),(47,.slice G perm.length gc),(48,.int .i64 (perm.length:Int)),(49,.int .i64 (i:Int)),(5,.int .i64 z),(68,.bool t)]) (λt w5=>w5=w4/\(t=true↔¬ ((F:Int)<=z/\z<N/\z ∉ perm.take i))) ?_ ?_
  .refine ki 57 (λh=>?_) (λh=>?_)
   .have:=oT h;refine ρ ?_;exact Jjn true sB ⟨rfl,by simp;omega⟩
   have h1:=oF h;refine ρ ?_;refine ld (a4.at (i:=0) rfl) ?_;refine ρ ?_;refine ki 63 (λh=>?_) (λh=>?_)
   .have:=oT h;refine ρ ?_;exact Jjn true sB ⟨rfl,by simp;omega⟩
   have h2:=oF h;have aj:0<=z:=om
   obtain ⟨x,rfl⟩:=Int.eq_ofNat_of_zero_le aj;have lx:x<N:=om
   have ah:Rd w4 1 O N (us.map Value.bool):=by rw [Jgw,a1]at C;exact Rd.own C
   refine ρ ?_;refine ix x ah lx ?_;refine ρ ?_;have ak:x<us.length:=om
   refine ld (ah.cell (Qmq ak)) ?_;refine ρ ?_;refine Jjn _ sB ⟨rfl,?_⟩;rw [a5 x lx];constructor
   .intro j ar;exact ar.2.2 j
   .intro j;by_cases hm:(x:Int)∈perm.take i
    .exact hm
    .exact absurd ⟨om,om,hm⟩ j
  rintro t5 w5 ⟨rfl,ht⟩;refine ci (λh=>?_) (λh=>?_)
  .refine ρ ?_;refine Jjq ⟨o,1,rfl,⟨λe=>(by cases e),λe=>absurd ?_ (ht.1 h)⟩⟩;have h7:=e.2.2.2.2.2.2.1 z ai;have h8:=a3 e.2.2.2.2.2.2.2.1;exact ⟨h7.1,h7.2,h8⟩
  have a7:(F:Int)<=z/\z<N/\z ∉ perm.take i:=by
   by_cases hz:(F:Int)<=z/\z<N/\z ∉ perm.take i
   .exact hz
   .rw [ht.2 hz]at h;cases h
  obtain ⟨x,rfl⟩:=Int.eq_ofNat_of_zero_le (show 0<=z by omega);have lx:x<N:=om
  rw [Jgw,a1]at C;obtain ⟨s1,s2,s3,s4,s5⟩:=Jqm C (q:=x) om (.bool true);refine ρ ?_;refine ix x (Rd.own C) lx ?_;refine ρ ?_;refine sto (s1.trans (Qmq om)) s2 ?_;refine ρ ?_;refine Jjj (i+1) (us.set x true) sO ⟨om,Jjk a8 s5 (λk hk=>by
    obtain ⟨_,_,_,_,hf⟩:=Jjd C;exact (hf k hk).1),by simpa using a1,?_,λv hv=>?_,?_,λv hv=>?_⟩ om
  .rw [Jgw,List.length_set,a1,List.map_set];exact s3
  .rw [a2,List.mem_append,List.mem_singleton]at hv;rcases hv with j|j
   .exact ab v j
   .rw [j];exact ⟨a7.1,a7.2.1⟩
  .rw [a2,List.nodup_append];refine ⟨U,by simp,λp hp q hq e=>?_⟩;rw [List.mem_singleton]at hq;subst hq;subst e;exact a7.2.2 hp
  .rw [Qqr _ _ _ _ om,a2,List.mem_append,List.mem_singleton];by_cases ev:v=x
   .subst ev;rw [if_pos rfl];exact ⟨λ_=>.inr rfl,λ_=>rfl⟩
   .rw [if_neg ev,a5 v hv];exact ⟨λj=>.inl j,λj=>j.elim id λe=>om⟩
 .have ei:i=perm.length:=by have:=oF h;omega
  clear h;rw [ei,List.take_of_length_le (Nat.le_refl _)]at ab U;refine ρ ?_;refine ld (a4.at (i:=0) rfl) ?_;refine ρ ?_;refine ld (a4.at (i:=4) rfl) ?_;refine ρ ?_;refine cl (Jcr (aa.ext o)) ?_;rintro u w5 ⟨am,e,rfl,he⟩;refine ρ ?_;refine Jjq ⟨o.trans am,e,rfl,he.trans ⟨λj=>⟨by simp only;omega,by simp only;omega,by simp only;omega,by simp only;omega,by simp only;omega,by simp only;omega,ab,U,j⟩,λj=>j.2.2.2.2.2.2.2.2⟩⟩
end Go.Proofs.YtefpailelagbkaaGreatDoor
