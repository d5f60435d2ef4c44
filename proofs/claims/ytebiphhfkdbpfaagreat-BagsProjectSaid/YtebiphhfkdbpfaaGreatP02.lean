/- Part 2. -/
import Derived.Test.YtebiphhfkdbpfaaGreatP01
import Derived.Laws.CopyRow
set_option linter.unusedVariables false
set_option maxRecDepth 100000
set_option maxHeartbeats 40000000
namespace Go.Proofs.YtebiphhfkdbpfaaGreat
open Go.RowKit Pl Go.Wk
attribute [local irreducible] WC WL QX WD WDB WP
variable {r:List V}{N N':Nat->Prop}{w:World}
def RowX(w:World)(N:Nat->Prop)(v:Value)(r:List V): Prop:=∃ A c,v=.slice A r.length c/\r.length<=c/\r.length<=1100000/\RdR w A r/\(r≠[]->∀ ad,A=some ad->¬ N ad.block)
def one(g:Option Nat)(k:Nat): Prop:=g=some k
theorem RowX.v{v:Value}(h:RowX w N v r): RowV w v r:=by
 obtain⟨A,c,F,D,y,u,_⟩:=h;exact⟨A,c,F,D,y,u⟩
theorem RowX.ext{w w':World}{N:Nat->Prop}{v:Value}{r:List V}(h:RowX w N v r)(hx:Ext w w'): RowX w' N v r:=by
 obtain⟨A,c,G,F,D,y,u⟩:=h;exact⟨A,c,G,F,D,y.ext hx,u⟩
theorem RowX.mono{v:Value}(h:RowX w N v r)(hN:∀ k,k<w.heap.size->N' k->N k): RowX w N' v r:=by
 obtain⟨A,c,G,F,D,y,u⟩:=h;refine⟨A,c,G,F,D,y,λh0 J e hn=>u h0 J e (hN _ ?_ hn)⟩;grind [Rd.isome,List.length_pos_iff.2]
theorem RowX.grown{w w':World}{N:Nat->Prop}{g:Option Nat}{v:Value}{r:List V}(h:RowX w N v r)(hg:w.grownBy w' g)(hN:∀ k,g=some k->N k): RowX w' N v r:=by
 obtain⟨A,c,F,D,y,G,u⟩:=h;refine⟨A,c,F,D,y,?_,u⟩;by_cases h0:r=[]
 .subst h0;exact Rd.nil
 repeat grind [Rd.grown]
theorem RowX.nil(w:World)(N:Nat->Prop): RowX w N (.slice none 0 0) []:=⟨none,0,rfl,by simp,by simp,Rd.nil,λh=>absurd rfl h⟩
theorem RowV.off{v:Value}(h:RowV w v r)(hg:∀ k,N k->w.heap.size<=k): RowX w N v r:=by
 obtain⟨A,c,F,D,y,u⟩:=h;refine⟨A,c,F,D,y,u,λh0 J e G=>?_⟩;grind [Rd.isome,List.length_pos_iff.2]
def RowsV(w:World)(v:Value)(ls:List (List V)): Prop:=∃(ps:List Pr) (A:Option Addr) (c:Nat),ls=ps.map (·.2)/\v=.slice A ps.length c/\ps.length<=c/\ps.length<=1100000/\Rd w 1 A ps.length (ps.map (·.1))/\∀ p∈ps,RowV w p.1 p.2
theorem RowsV.ext{w w':World}{v:Value}{ls:List (List V)}(h:RowsV w v ls)(hx:Ext w w'): RowsV w' v ls:=by
 obtain⟨ps,A,c,O,J,G,F,D,y⟩:=h;exact⟨ps,A,c,O,J,G,F,D.ext hx,λp u=>(y p u).ext hx⟩
theorem RowsV.nil(w:World)(A:Option Addr)(c:Nat): RowsV w (.slice A 0 c) []:=⟨[],A,c,rfl,rfl,by simp,by simp,Rd.nil,λp u=>by cases u⟩
theorem RowV.one{v:Value}(h:RowV w v r): v.oneCell'=true:=by obtain⟨A,c,rfl,_⟩:=h;rfl
theorem Jcm{v:Value}(h:RowV w v r)(N:Nat->Prop)(hg:∀ k,N k->k<w.heap.size):
  Ret Tryz.prog 49 [v] w λv' w'=>RowX w' N v' r/\Ext w w':=by
 obtain⟨A,c,rfl,U,h3,O⟩:=h;refine Jz Tryz.func49 Tryz.ntmps49 rfl kr rfl ?_;refine ρ ?_;refine snil ?_;refine ρ ?_;refine ci (λh=>?_) (λh=>?_)
 .have hA:A=none:=by simpa using h
  subst hA;have hn:r.length=0:=by
   rcases Nat.eq_zero_or_pos r.length with h0|h0
   .exact h0
   obtain⟨Z,U,_⟩:=O.isome h0 om;cases U
  obtain rfl:=List.eq_nil_of_length_eq_zero hn;refine ρ ?_;exact Jq ⟨RowX.nil w N,Ext.refl w⟩
 refine ρ ?_;refine bsl Jss ?_;intro w1 b y J G;refine ρ ?_;refine apo y EV (G.own (n:=0) J rfl (Nat.zero_le _)) (O.ext y) (Qkt r) (by unfold maxLen;omega) om ?_;intro v2 w2 u F _ _;obtain⟨A2,c2,rfl,D,hf⟩:=Jy u;refine ρ ?_;rw[Nat.zero_add]at u D ⊢;refine Jq ⟨⟨A2,c2,rfl,D,h3,Rd.own u,λ_ Z e=>?_⟩,F⟩;subst e;intro e2;have h4:=hg _ e2;have h5:=(hf Z.block rfl).1;omega
theorem Pr.rep(n:Nat): (List.replicate n ((.slice none 0 0,[]):Pr)).map (·.1)=List.replicate n (.slice none 0 0):=by simp
def Srt(ds:List Bool)(ls:List (List V)): Prop:=ls.Pairwise λa b=>Jk a b ds<=0
theorem Jfw{ds:List Bool}{ps:List Pr}(h:SOn z0 (fP ds) ps 0 ps.length): Srt ds (ps.map (·.2)):=by
 unfold Srt;rw[List.pairwise_map,List.pairwise_iff_getElem];intro i j hi y u;have:=h i j (Nat.zero_le _) u y;rw[Ql z0 ps hi,Ql z0 ps y]at this;exact this
end Go.Proofs.YtebiphhfkdbpfaaGreat
namespace Go.Proofs.YtebiphhfkdbpfaaGreat
open Pl
variable {ds:List Bool}{i j k:Nat}
abbrev Row:= List V
def Lt(ds:List Bool)(ls:List Row): Prop:=ls.Pairwise λa b=>Jk a b ds<0
def IsSet(ds:List Bool)(ls m:List Row): Prop:=Lt ds m/\∀ x,x∈m↔x∈ls
theorem Jyx(ds:List Bool)(a:Row): ¬ Jk a a ds<0:=by rw[Vo];omega
theorem Qdj{a b:Row}(h:Jk a b ds<0): ¬ Jk b a ds<0:=by grind [Jxg]
theorem Uz{ds:List Bool}: ∀ {l m:List Row},Lt ds l->Lt ds m->(∀ x,x∈l↔x∈m)->l=m
 | [],[],_,_,_=>rfl
 | [],b::m,_,_,h=>absurd ((h b).2 (mC ..)) (by simp)
 | a::l,[],_,_,h=>absurd ((h a).1 (mC ..)) (by simp)
 | a::l,b::m,h1,h2,h=>by
  have p1:=List.pairwise_cons.1 h1;have p2:=List.pairwise_cons.1 h2;have hab:a=b:=by
   rcases List.mem_cons.1 ((h a).1 (mC ..)) with e|e
   .exact e
   rcases List.mem_cons.1 ((h b).2 (mC ..)) with e2|e2
   .exact e2.symm
   exact absurd (p1.1 _ e2) (Qdj (p2.1 _ e))
  subst hab;congr 1
  refine Uz p1.2 p2.2 λx=>?_;have hx:=h x;constructor
  .intro hm;rcases List.mem_cons.1 (hx.1 (List.mem_cons_of_mem _ hm)) with e|e
   .subst e;exact absurd (p1.1 _ hm) (Jyx ds x)
   exact e
  intro hm;rcases List.mem_cons.1 (hx.2 (List.mem_cons_of_mem _ hm)) with e|e
  .subst e;exact absurd (p2.1 _ hm) (Jyx ds x)
  exact e
theorem IsSet.uniq{ls m m':List Row}(h:IsSet ds ls m)(h':IsSet ds ls m'): m=m':=Uz h.1 h'.1 λx=>(h.2 x).trans (h'.2 x).symm
def ddS(out:List Row)(x:Row): List Row:=if out.getLast?=some x then out else out++[x]
def ddF(l:List Row): List Row:=l.foldl ddS []
theorem Jcg(l:List Row)(x:Row): ddF (l++[x])=ddS (ddF l) x:=by simp[ddF,List.foldl_append]
theorem Jrg(out:List Row)(x:Row): (ddS out x).getLast?=some x:=by
 unfold ddS;split
 .assumption
 simp
theorem getLast_mem'{l:List Row}{x:Row}(h:l.getLast?=some x): x∈l:=by grind
theorem Jcf{ds:List Bool}: ∀(l out:List Row),Lt ds out->(∀ a∈out,∀ b∈l,Jk a b ds<=0)->Srt ds l->Lt ds (l.foldl ddS out)/\∀ x,x∈l.foldl ddS out↔(x∈out∨x∈l)
 | [],out,h,_,_=>⟨h,λx=>by simp⟩
 | y::l,out,h,hle,hs=>by
  have p:=List.pairwise_cons.1 hs;simp only[List.foldl_cons];by_cases e:out.getLast?=some y
  .have hy:=getLast_mem' e;have e1:ddS out y=out:=by grind [ddS]
   rw[e1];obtain⟨k1,k2⟩:=Jcf l out h (λa ha b hb=>hle a ha b (List.mem_cons_of_mem _ hb)) p.2;grind
  have e1:ddS out y=out++[y]:=by unfold ddS;rw[if_neg e]
  rw[e1];have hlt:∀ a∈out,Jk a y ds<0:=by
   intro a ha;have h1:=hle a ha y (mC ..);rcases Int.lt_or_eq_of_le h1 with h2|h2
   .exact h2
   exfalso
   have:=Jjl _ _ _ h2;subst this
   -- a is in out,and everything in out is below a;so a is the last
   obtain⟨z,hz⟩:∃ z,out.getLast?=some z:=by grind
   rw[List.getLast?_eq_some_iff]at hz;obtain⟨ys,rfl⟩:=hz;rcases List.mem_append.1 ha with h3|h3
   .have h4:=(List.pairwise_append.1 h).2.2 _ h3 z (by simp);have h5:=hle z (by simp) a (mC ..);exact absurd ((Gk ds).lt_le h4 h5) (Jyx ds a)
   repeat grind
  obtain⟨k1,k2⟩:=Jcf l (out++[y]) (List.pairwise_append.2 ⟨h,List.pairwise_singleton _ _,λa ha b hb=>by grind⟩) (λa ha b hb=>by grind) p.2;grind
theorem Jrf: ∀(l out:List Row),(l.foldl ddS out).length<=out.length+l.length
 | [],out=>by simp
 | y::l,out=>by
  simp only[List.foldl_cons];have:=Jrf l (ddS out y);have h2:(ddS out y).length<=out.length+1:=by unfold ddS;split<;>simp
  grind
theorem Jxf(l:List Row): (ddF l).length<=l.length:=by grind [Jrf,ddF]
theorem Jrj{l:List Row}(h:Srt ds l): IsSet ds l (ddF l):=by
 obtain⟨D,y⟩:=Jcf l [] List.Pairwise.nil (λa u=>by cases u) h;exact⟨D,λx=>(y x).trans (by simp)⟩
theorem Jrh{l:List Row}(hk:k<l.length): ddF (l.take (k+1))=if k≠0/\l.getD (k-1) []=l.getD k [] then ddF (l.take k) else ddF (l.take k)++[l.getD k []]:=by
 rw[List.take_succ_eq_append_getElem hk,Jcg,<-Ql [] l hk];unfold ddS;by_cases h0:k=0
 .grind [ddF]
 have u:k-1<l.length:=om
 have e:ddF (l.take k)=ddS (ddF (l.take (k-1))) (l.getD (k-1) []):=by
  have:=List.take_succ_eq_append_getElem u;grind [Jcg,Ql]
 grind [Jrg]
def cnt(ds:List Bool)(l:List Row)(r:Row): Nat:=(l.filter λx=>decide (Jk x r ds<0)).length
theorem cnt_le(ds:List Bool)(l:List Row)(r:Row): cnt ds l r<=l.length:=List.length_filter_le _ _
theorem Lt.at{l:List Row}(h:Lt ds l)(hij:i<j)(hj:j<l.length): Jk (l.getD i []) (l.getD j []) ds<0:=by
 have:=List.pairwise_iff_getElem.1 h i j om hj hij;grind
theorem Qlt{l:List Row}{r:Row}(hk:k<=l.length)(hlo:∀ i,i<k->Jk (l.getD i []) r ds<0)(hhi:∀ i,k<=i->i<l.length->¬ Jk (l.getD i []) r ds<0): cnt ds l r=k:=by
 unfold cnt;have e:l=l.take k++l.drop k:=(List.take_append_drop k l).symm;rw[e,List.filter_append,List.length_append];have F:(l.take k).filter (λx=>decide (Jk x r ds<0))=l.take k:=by grind [List.filter_eq_self,List.getElem_of_mem,Ql]
 have D:(l.drop k).filter (λx=>decide (Jk x r ds<0))=[]:=by
  rw[List.filter_eq_nil_iff];intro x u;obtain⟨i,hi,rfl⟩:=List.getElem_of_mem u;have y:k+i<l.length:=by simp at hi;omega
  grind
 grind
def Iq(ds:List Bool)(l:List Row)(r:Row): List Row:=if r∈l then l else l.take (cnt ds l r)++r::l.drop (cnt ds l r)
theorem Qvh{l ls:List Row}{r:Row}(h:IsSet ds ls l): IsSet ds (ls++[r]) (Iq ds l r):=by
 unfold Iq;split
 .rename_i hm;refine⟨h.1,λx=>?_⟩;rw[List.mem_append,List.mem_singleton,<-h.2 x];grind
 rename_i hm;have Z:=cnt_le ds l r
 -- what is below the place is smaller,what is above is greater
 have G:∃ k,cnt ds l r=k/\k<=l.length/\(∀ i,i<k->Jk (l.getD i []) r ds<0)/\(∀ i,k<=i->i<l.length->¬ Jk (l.getD i []) r ds<0):=by
  have ex:∀ n,n<=l.length->∃ k,k<=n/\(∀ i,i<k->Jk (l.getD i []) r ds<0)/\(k=n∨¬ Jk (l.getD k []) r ds<0):=by
   intro n;induction n with
   | zero=>exactλ_=>⟨0,Nat.le_refl _,λi hi=>om,.inl rfl⟩
   | succ n ih=>
    grind
  obtain⟨k,k1,U,y⟩:=ex l.length (nR _);have hi:∀ i,k<=i->i<l.length->¬ Jk (l.getD i []) r ds<0:=λi O h2=>by
   rcases y with y|y
   .omega
   by_cases e:i=k
   .rw[e];exact y
   exactλh3=>y ((Gk ds).lt_trans (h.1.at (i:=k) (j:=i) om h2) h3)
  grind [Qlt]
 obtain⟨k,hk,k1,U,y⟩:=G;rw[hk];have D:=h.1;refine⟨?_,λx=>?_⟩
 .unfold Lt at D ⊢;rw[List.pairwise_append];refine⟨D.sublist (List.take_sublist _ _),List.pairwise_cons.2 ⟨λb F=>?_,D.sublist (List.drop_sublist _ _)⟩,λa ha b F=>?_⟩
  .obtain⟨i,hi,rfl⟩:=List.getElem_of_mem F;have u:k+i<l.length:=by simp at hi;omega
   have:=y (k+i) om u;rw[Ql [] l u]at this;rw[List.getElem_drop];rcases(Gk ds).tot l[k+i] r with e|e|e
   repeat grind
  obtain⟨i,hi,rfl⟩:=List.getElem_of_mem ha;have u:i<k:=by simp at hi;omega
  have O:=U i u;rw[Ql [] l om]at O;rw[List.getElem_take];rcases List.mem_cons.1 F with rfl|F
  .exact O
  obtain⟨j,hj,rfl⟩:=List.getElem_of_mem F;have J:k+j<l.length:=by simp at hj;omega
  rw[List.getElem_drop];have:=h.1.at (i:=i) (j:=k+j) om J;grind
 rw[List.mem_append,List.mem_cons,List.mem_append,List.mem_singleton,<-h.2 x];grind [List.take_append_drop]
open Go.RowKit Pl Go.Wk
attribute [local irreducible] WC WL QX WD WDB WP
variable {ls:List Row}{base i:Nat}{v:Value}{w:World}
theorem Jsk(v:Value)(w:World)(A:Option Addr)(n c:Nat)(hv:v=.slice A n c): (Instr.buildSlice 33 1 #[(0,v)]).run Tryz.prog w=.ok (.slice (some ⟨w.heap.size,0,none⟩) 1 1) (w.alloc (.cells [v].toArray 73)):=by
 subst hv;kernel_rfl
theorem Jkf{ps:List Pr}: (ps.map (·.2)).getD i []=(ps.getD i z0).2:=by
 simp only[List.getD,List.getElem?_map];cases ps[i]?<;>rfl
def own(base:Nat)(v:Value)(k:Nat): Prop:=k<base∨v.ownBlock=some k
def OwnR(w:World)(base:Nat)(v:Value)(ls:List Row): Prop:=∃ ps:List Pr,ls=ps.map (·.2)/\w.ownsRow base 73 1 v ps.length (ps.map (·.1))/\∀ p∈ps,RowX w (own base v) p.1 p.2
theorem OwnR.nil(w:World)(base:Nat): OwnR w base (.slice none 0 0) []:=⟨[],rfl,Xj _ _ _ _,λp u=>by cases u⟩
theorem OwnR.ext{w w':World}{base:Nat}{v:Value}{ls:List Row}(h:OwnR w base v ls)(hx:Ext w w'): OwnR w' base v ls:=by
 obtain⟨ps,F,D,y⟩:=h;exact⟨ps,F,Jb D hx,λp u=>(y p u).ext hx⟩
theorem OwnR.rows(h:OwnR w base v ls)(hm:ls.length<=1100000): RowsV w v ls:=by
 obtain⟨ps,rfl,u,F⟩:=h;obtain⟨A,c,rfl,D,_⟩:=Jy u;exact⟨ps,A,c,rfl,rfl,D,by simpa using hm,Rd.own u,λp y=>(F p y).v⟩
theorem OwnR.form(h:OwnR w base v ls): ∃ A c,v=.slice A ls.length c:=by
 obtain⟨ps,rfl,y,u⟩:=h;grind [Jy]
theorem OwnR.lt(h:OwnR w base v ls): ∀ k,v.ownBlock=some k->base<=k/\k<w.heap.size:=by
 obtain⟨ps,rfl,y,u⟩:=h;grind [Jy]
theorem OwnR.grown{w w':World}{base g:Nat}{v:Value}{ls:List Row}(h:OwnR w base v ls)(hg:w.grownBy w' (some g))(hb:g<base): OwnR w' base v ls:=by
 obtain⟨ps,F,D,y⟩:=id h;refine⟨ps,F,World.ownsRow.kept D hg ?_,λp u=>(y p u).grown hg (λk G=>.inl (by grind))⟩;cases hv:v.ownBlock with
 | none=>exact .inl rfl
 | some k=>exact .inr (λe=>by injection e with e;have:=(h.lt k hv).1;omega)
theorem RowsV.parts(h:RowsV w v ls): ∃ A c,v=.slice A ls.length c/\ls.length<=c/\ls.length<=1100000/\∃ cs:List Value,Rd w 1 A ls.length cs/\∀ i,i<ls.length->∃ u,cs[i]?=some u/\RowV w u (ls.getD i []):=by
 obtain⟨ps,A,c,rfl,rfl,F,D,y,G⟩:=h;refine⟨A,c,by simp,by simpa using F,by simpa using D,ps.map (·.1),by simpa using y,λi hi=>?_⟩
 grind [Gs,Jkf,getD_mem',z0]
open Go.RowKit Pl Go.Wk
variable {cap first:Array Value}{fid:FuncId}{ds:List Bool}{ps:List Pr}{base c i n:Nat}{A:Option Addr}{row:Option Nat}{w w':World}
theorem Qzm(hD:Dat w base (.slice A n c) ps)(hn:ps.length=n)(hmx:n<=1100000)(hC:CF w (Value.slice A n c).ownBlock fid first cap ps ds):
  Ret Tryz.prog 76 [.slice A n c,.func (.func fid) first cap] w λv w'=>∃ ps',DP w w' base A n c ps ps'/\(n<=65536->SOn z0 (fP ds) ps' 0 n):=by
 refine Jz Tryz.func76 Tryz.ntmps76 rfl kr rfl ?_;refine ρ ?_;refine kv 10 (u:=.int .u64 (n:Int)) (congrArg (Value.int .u64) (Yh om)) ?_;refine cl (Jcx n om w) ?_;rintro v w' ⟨rfl,rfl⟩;refine ρ ?_;have D:Jv n<=48:=Yb om;refine cl (Qyg n (a0:=0) (b0:=n) (ai:=0) (bi:=(n:Int)) (lim:=(Jv n:Int)) hD hn om hC rfl rfl om (nR _) om om (.inl rfl)) ?_;rintro v w2 ⟨q,H,_,y⟩;refine ρ ?_;exact Ve ⟨q,H,λ_=>y⟩
theorem Jgb{α:Type}{z:α}{f:α->α->Int}(hf:PreC f){q:List α}: SOn z f q 0 n↔∀ k,0<k->k<n->¬ f (q.getD k z) (q.getD (k-1) z)<0:=by
 constructor
 .intro h k h0 y u;have:=h (k-1) k om om y;have:=hf.anti (q.getD k z) (q.getD (k-1) z);omega
 intro h i j _ F D;induction j with
 | zero=>omega
 | succ j ih=>
  have G:=h (j+1) om D;have J:=hf.anti (q.getD (j+1) z) (q.getD j z);simp only[Nat.add_sub_cancel]at G;by_cases e:i=j
  .subst e;omega
  exact hf.trans _ _ _ (ih om om) om
theorem Ij(hR:Rd w 1 A n (ps.map (·.1)))(hn:ps.length=n)(hi:i<n): w.cell? (adr A i)=some (ps.getD i z0).1:=hR.cell (Gs (hn.symm ▸ hi))
theorem Vz(hn:ps.length=n)(hi:i<n): ps.getD i z0∈ps:=getD_mem' z0 ps (hn.symm ▸ hi)
theorem CF.none(h:CF w row fid first cap ps ds)(hx:Ext w w'){p q:Pr}(hp:p∈ps)(hq:q∈ps):
  Ret Tryz.prog fid (first.toList++[p.1,q.1]++cap.toList) w' λr w''=>r=.int .i64 (fP ds p q)/\Ext w' w'':=h w' (Xc hx _) p q hp hq
theorem Qfr(hR:Rd w 1 A n (ps.map (·.1)))(hn:ps.length=n)(hmx:n<=1100000)(hC:CF w row fid first cap ps ds):
  Ret Tryz.prog 74 [.slice A n c,.func (.func fid) first cap] w λv w'=>Ext w w'/\∃ t:Bool,v=.bool t/\(t=true↔SOn z0 (fP ds) ps 0 n):=by
 refine Jz Tryz.func74 Tryz.ntmps74 rfl kr rfl ?_;refine ρ ?_;refine Jl (fun (j:Nat)=>[(0,.slice A n c),(1,.func (.func fid) first cap),(5,.int .i64 ((j:Int)-1))]) (λj w'=>Ext w w'/\j<=n/\∀ k,j<=k->0<k->k<n->¬ fP ds (ps.getD k z0) (ps.getD (k-1) z0)<0) (λj=>j) n sO ⟨Ext.refl w,Nat.le_refl _,λk h1 _ h2=>om⟩ ?_;rintro j w1 ⟨U,hj,Z⟩;refine ρ ?_;refine ci (λh=>?_) (λh=>?_)
 .have h2:2<=j:=by have:=oT h;omega
  have G:j-1<n:=om
  have D:j-2<n:=om
  refine ρ ?_;refine dr [(0,0),(0,1),(0,2),(0,3),(0,4),(0,5),(0,6),(0,7),(0,8),(0,9),(1,10),(0,11)] kr ?_;have u:Ext w w1.drew:=U.drew;have y:=hR.ext u;refine ρd ?_;refine dix (j-1) y G ?_;refine ρd ?_;refine dld (Ij y hn G) ?_;refine ρd ?_;refine dix (j-2) y D ?_;refine ρd ?_;refine dld (Ij y hn D) ?_;refine ρd ?_;refine Zc (hC.none u (Vz hn G) (Vz hn D)) ?_;rintro r w2 ⟨rfl,F⟩;refine⟨F,?_⟩;refine ρd ?_;refine ρ ?_;refine ci (λh=>?_) (λh=>?_)
  .refine ρ ?_;refine Jq ⟨u.trans F,false,rfl,⟨λe=>(by cases e),λe=>?_⟩⟩;grind [Jgb,preP]
  refine ρ ?_;refine Jg (j-1) sO ⟨u.trans F,om,λk O J k3=>?_⟩ om;grind
 refine ρ ?_;have h1:j<=1:=by grind
 exact Jq ⟨U,true,rfl,⟨λ_=>(Jgb (preP ds)).2 λk O J=>Z k om O J,λ_=>rfl⟩⟩
theorem Qyw{P:Program}{t e k bytes:Nat}{z:Value}{xs:List Value}(hE:ElT P t e 1 bytes z)(hz1:z.cells = #[z])(hz2:z.oneCell'=true)(h:w.ownsRow base e 1 (.slice A n c) n xs)(hk:k<=n)(ty:TypeId):
  ∃ w',(Builtin.clear_ #[t] ty #[.slice (if c=k then A else A.map (·.add (k*1))) (n-k) (c-k)]).run P w=.ok (.tuple #[]) w'/\w'.ownsRow base e 1 (.slice A k c) k (xs.take k)/\w.grownBy w' (Value.slice A n c).ownBlock:=by
 obtain⟨i,hi,U,Z,a2⟩:=hE.info;obtain⟨hl,O⟩:=h;have a1:xs.length=n:=om
 rcases Nat.eq_or_lt_of_le hk with e0|hlt
 .subst e0;refine⟨w,?_,?_,Xc (Ext.refl w) _⟩
  .rw[Nat.sub_self];generalize (if c=k then A else A.map (·.add (k*1)))=B
   cases B<;>simp[Builtin.clear_,run_underlying hE.sl]
  rw[List.take_of_length_le om];exact⟨hl,O⟩
 rcases O with⟨F,h0⟩|⟨g,cap,cur,F,hb,hg,hle,hmx,hcs,hcur⟩
 .omega
 injection F with e1 e2 e3
 subst e1;subst e3;have J:¬ c=k:=om
 rw[if_neg J];have e4:(some (⟨g,0,none⟩:Addr)).map (·.add (k*1))=some ⟨g,k,none⟩:=by simp[Za]
 rw[e4];have u:=run_storeCells_at (P:=P) g k e (List.replicate (n-k) z) 0 cur w hg (by simp;omega) (λv F=>by grind);refine⟨w.setRow g (cur.toList.take (k+0)++List.replicate (n-k) z++cur.toList.drop (k+0+(List.replicate (n-k) z).length)).toArray,?_,?_,Jjd w g _⟩
 .have G:∃ m,n-k=m+1:=⟨n-k-1,om⟩;obtain⟨m,hm⟩:=G;have y:(Builtin.zeroCells z.cells (n-k)).toList=List.replicate (n-k) z:=by
   rw[hz1];simp only[Builtin.zeroCells];apply List.ext_getElem
   repeat grind
  rw[hm]at u y ⊢;have D:(zeroValue e).run P w=.ok z w:=by simp[zeroValue,typeInfo,hi,U]
  simp only[Nat.add_zero,List.length_replicate,List.append_assoc]at u ⊢;simp[Builtin.clear_,run_underlying hE.sl,D,y,u]
 simp only[Nat.add_zero,List.length_replicate];refine⟨by grind,.inr ⟨g,c,_,rfl,hb,setRow_heap w g cur _ e _ hg,om,hmx,?_,?_⟩⟩;repeat grind
end Go.Proofs.YtebiphhfkdbpfaaGreat
namespace Go.Wk
section
variable {P:Program} {n:Nat} {al:AL} {w:World} {Q:Exit->Act->World->Prop} {ops:Array Oper} {rest:List Oper}
variable {ty:Nat} {pos:String} {aft:Array Edge}
theorem clr{x:Operand}{t:Nat}{v:Value}{w':World}(h:∀ ty,(Builtin.clear_ #[t] ty #[v]).run P w=.ok (.tuple #[]) w')(k:WL P n ops Q rest al w')(hx:ev al x=some v:=by rfl):
  WL P n ops Q (⟨none,.call { callee:=.builtin .clear,args:=#[x],argTypes:=#[t] },ty,pos,aft,none⟩::rest) al w:=λa u=>
 wpList_plain rfl λK y=>by
  unfold Oper.wp;have e:(execOp a.eval ⟨none,.call { callee:=.builtin .clear,args:=#[x],argTypes:=#[t] },ty,pos,aft,none⟩).run P w=.ok (.value (.tuple #[])) w':=by
   simp[execOp,resolve,invoke,builtin,u.ev hx,h ty]
  rw[e,Oper.upon_value];exact y _ _ (k _ u)
end
end Go.Wk
namespace Go.Proofs.YtebiphhfkdbpfaaGreat
open Go.RowKit Pl Go.Wk
attribute [local irreducible] WC WL QX WD WDB WP
variable {ps q:List Pr}{base c k n:Nat}{A:Option Addr}{w:World}
def EqF(w:World)(row:Option Nat)(fid:FuncId)(first cap:Array Value)(M:List Pr): Prop :=
 ∀ w',w.grownBy w' row->∀ p q,p∈M->q∈M->Ret Tryz.prog fid (first.toList++[p.1,q.1]++cap.toList) w' λr w''=>r=.bool (decide (p.2=q.2))/\Ext w' w''
theorem Jrk{l:List Row}(h:l.length<2): ddF l=l:=by
 match l with
 | []=>rfl
 | [a]=>rfl
 | _::_::_=>exact absurd h (by simp)
theorem Xu{α:Type}(z:α){l:List α}(h:k<l.length): l.take (k+1)=l.take k++[l.getD k z]:=by grind [List.take_add_one,List.getElem?_eq_getElem,Ql]
theorem Dat.take(hq:q.length=n)(h1:∀ p∈q,p.1.oneCell'=true)(hk:k<=n)(h:w.ownsRow base 73 1 (.slice A k c) k ((q.map (·.1)).take k)): Dat w base (.slice A k c) (q.take k):=by
 refine⟨?_,λp u=>h1 p (List.mem_of_mem_take u)⟩;grind [List.length_take,Nat.min_eq_left,List.map_take]
theorem Qlm{fid:FuncId}{first cap:Array Value}(hD:Dat w base (.slice A n c) ps)(hn:ps.length=n)(hmx:n<=1100000)(hnc:n<=c)(hC:EqF w (Value.slice A n c).ownBlock fid first cap ps):
  Ret Tryz.prog 77 [.slice A n c,.func (.func fid) first cap] w λv w'=>∃ ps':List Pr,v=.slice A ps'.length c/\Dat w' base (.slice A ps'.length c) ps'/\ps'.map (·.2)=ddF (ps.map (·.2))/\(∀ p∈ps',p∈ps)/\w.grownBy w' (Value.slice A n c).ownBlock:=by
 refine Jz Tryz.func77 Tryz.ntmps77 rfl kr rfl ?_;obtain⟨ls,aa⟩:∃ ls:List Row,ls=ps.map (·.2):=⟨_,rfl⟩
 have av:ls.length=n:=by rw[aa];simpa using hn
 have u:∀ i,ls.getD i []=(ps.getD i z0).2:=λi=>by rw[aa];exact Jkf
 refine ρ ?_;refine ci (λh=>?_) (λh=>?_)
 .refine ρ ?_;refine Jq ⟨ps,by rw[hn],by rw[hn];exact hD,?_,λp Z=>Z,Xc (Ext.refl w) _⟩;grind [Jrk]
 have h2:2<=n:=by grind
 clear h;refine ρ ?_;refine Jl (fun (j:Nat)=>[(0,.slice A n c),(1,.func (.func fid) first cap),(5,.int .i64 (j:Int))]) (λj w'=>Ext w w'/\1<=j/\j<=n/\ddF (ls.take j)=ls.take j) (λj=>n-j) 1 sB ⟨Ext.refl w,om,om,Jrk (by rw[List.length_take];omega)⟩ ?_;rintro j w1 ⟨hx,ax,hj,hI⟩;refine ρ ?_;refine ci (λh=>?_) (λh=>?_);rotate_left
 .have e:j=n:=by have:=oF h;omega
  refine ρ ?_;refine Jq ⟨ps,by rw[hn],by rw[hn];exact hD.ext hx,?_,λp Z=>Z,Xc hx _⟩;grind
 have lj:j<n:=by grind
 have a3:j-1<n:=om
 clear h;refine ρ ?_;refine dr [(0,0),(0,1),(0,2),(0,3),(0,4),(0,5),(0,6),(0,7),(0,8),(0,9),(1,10)] kr ?_;have a5:Ext w w1.drew:=hx.drew;have J:=hD.ext a5;refine ρd ?_;refine dix j (J.rd hn) lj ?_;refine ρd ?_;refine dld (J.cell hn lj) ?_;refine ρd ?_;refine dix (j-1) (J.rd hn) a3 ?_;refine ρd ?_;refine dld (J.cell hn a3) ?_;refine ρd ?_;refine Zc (hC _ (Xc a5 _) (ps.getD j z0) (ps.getD (j-1) z0) (Vz hn lj) (Vz hn a3)) ?_;rintro r w2 ⟨rfl,a8⟩;refine⟨a8,?_⟩;have a4:=a5.trans a8;refine ρd ?_;refine ρ ?_;have y:=Jrh (l:=ls) (k:=j) om;rw[u,u]at y;refine ci (λh=>?_) (λh=>?_);rotate_left
 .have a9:=oF h;refine ρ ?_;refine Jg (j+1) sO ⟨a4,om,om,?_⟩ om;grind [Xu]
 have af:=oT h;clear h;rw[if_pos ⟨om,af.symm⟩,hI]at y;have ar:=hD.ext a4;refine ρ ?_;refine sll j ?_;refine ρ ?_;refine Zk (fun (k m:Nat) (q:List Pr)=>[(0,.slice A n c),(1,.func (.func fid) first cap),(5,.int .i64 (k:Int)),(6,.slice (if c=j then A else A.map (·.add (j*1))) (n-j) (c-j)),(7,.int .i64 ((m:Int)-(j:Int)))])
  (λk m q w'=>Dat w' base (.slice A n c) q/\q.length=n/\w.grownBy w' (Value.slice A n c).ownBlock/\j<m/\m<=n/\k<m/\(∀ i,k<=i->q.getD i z0=ps.getD i z0)/\(q.take k).map (·.2)=ddF (ls.take m)/\∀ p∈q,p∈ps) (λ_ m _=>n-m) j (j+1) ps sO
  ⟨ar,hn,Xc a4 _,om,om,om,λ_ _=>rfl,by grind [List.map_take],λp Z=>Z⟩ ?_
 rintro k m q w3 ⟨a6,U,ae,aw,hm,hk,ap,ao,O⟩;refine ρ ?_;refine ci (λh=>?_) (λh=>?_)
 .have an:m<n:=by have:=oT h;omega
  have lm:m-j<n-j:=om
  have aj:m-j-1<n-j:=om
  clear h;refine ρ ?_;refine dr [(0,0),(0,1),(0,2),(0,3),(0,4),(0,5),(0,6),(0,7),(0,8),(0,9),(1,10),(0,11)] kr ?_;have a7:Ext w3 w3.drew:=(Ext.refl w3).drew;have ai:=a6.ext a7;have ad:=Xv ae (Xc a7 _);have D:=(ai.rd U).drop (k:=j) (c:=c) om hnc;have c1:((q.map (·.1)).drop (j*1))[m-j]?=some (ps.getD m z0).1:=by grind
  have c2:((q.map (·.1)).drop (j*1))[m-j-1]?=some (ps.getD (m-1) z0).1:=by grind
  refine ρd ?_;refine dix (m-j) D lm ?_;refine ρd ?_;refine dld (D.cell c1) ?_;refine ρd ?_;refine dix (m-j-1) D aj ?_;refine ρd ?_;refine dld (D.cell c2) ?_;refine ρd ?_;refine Zc (hC _ ad (ps.getD m z0) (ps.getD (m-1) z0) (Vz hn an) (Vz hn om)) ?_;rintro r w7 ⟨rfl,F⟩;refine⟨F,?_⟩;have G:=ai.ext F;have ac:=Xv ad (Xc F _);have ah:=D.ext F;refine ρd ?_;refine ρ ?_;have y:=Jrh (l:=ls) (k:=m) om;rw[u,u]at y;refine ci (λh=>?_) (λh=>?_)
  .have a9:(ps.getD m z0).2≠(ps.getD (m-1) z0).2:=by simpa using h
   have lk:k<n:=om
   have au:(q.take k).length=k:=by rw[List.length_take];omega
   refine ρ ?_;refine ix (m-j) ah lm ?_;refine ρ ?_;refine ld (ah.cell c1) ?_;refine ρ ?_;refine ix k (G.rd U) lk ?_;refine ρ ?_;obtain⟨s1,s2,s3⟩:=G.store U lk (p:=ps.getD m z0) (hD.one om);refine sto (G.cell U lk) s1 ?_ (hv:=hD.one om);refine ρ ?_;refine Qa (k+1) (m+1) (q.set k (ps.getD m z0)) sO ⟨s2,by simpa using U,Xv ac s3,om,om,om,λi hi=>?_,?_,λp Z=>?_⟩ om
   .grind
   .rw[y,if_neg (λe=>a9 e.2.symm),<-ao,Xu z0 (by simp;omega),Jnw z0 _ _ _ _ om,if_pos rfl,List.take_set_of_le (nR _),List.map_append];rfl
   repeat grind
  have af:(ps.getD m z0).2=(ps.getD (m-1) z0).2:=by simpa using h
  refine ρ ?_;refine Qa k (m+1) q sO ⟨G,U,ac,om,om,om,ap,?_,O⟩ om;grind
 have e:m=n:=by have:=oF h;omega
 subst e;have a2:=a6.1;rw[U]at a2;obtain⟨w8,ak,am,aq⟩:=Qyw (P:=Tryz.prog) (k:=k) ER rfl rfl a2 om 0;refine ρ ?_;refine sll k ?_;refine ρ ?_;refine clr (w':=w8) (λty=>ak) ?_;refine ρ ?_;refine slh k ?_;refine ρ ?_;have a1:(q.take k).length=k:=by rw[List.length_take];omega
 refine Jq ⟨q.take k,by rw[a1],by rw[a1];exact Dat.take U a6.2 om am,?_,λp Z=>O p (List.mem_of_mem_take Z),Xv ae aq⟩;grind
open Go.RowKit Pl Go.Wk
variable {ar z:Int}{c n:Nat}{A:Option Addr}{r:Row}{sv v:Value}{w:World}
def Xo(v:V): Bool:=if v.kind=1 then(v.bytes == []) else if v.kind=2 then decide (v.num=0) && decide (v.bytes.length<=24) else false
theorem Qzf(v:V): v.str.size=v.bytes.length:=(Array.length_toList (xs:=v.str.data)).symm
theorem Qzg(v:V): (v.str.toList == (⟨#[]⟩:ByteArray).toList)=(v.bytes == []):=by rw[ByteArray.toList_eq,ByteArray.toList_eq];rfl
theorem Qql(v:V)(w:World): Ret Tryz.prog 118 [v.val] w λr w'=>r=.bool (Xo v)/\Ext w w':=by
 refine Jz Tryz.func118 Tryz.ntmps118 rfl kr rfl ?_;refine ρ ?_;refine bx (cs:=v.cells) ?_;intro w1 b u G y;refine ρ ?_;refine ld (y.at (i:=0) rfl) ?_;refine ρ ?_;refine ci (λh=>?_) (λh=>?_)
 .refine ρ ?_;refine ld (y.at (i:=2) rfl) ?_;refine ρ ?_;refine Jq ⟨?_,u⟩;rw[Xo,if_pos (Yp h),Qzg]
 refine ρ ?_;refine ci (λD=>?_) (λD=>?_)
 .refine ρ ?_;refine ld (y.at (i:=1) rfl) ?_;refine ρ ?_;refine ki 15 (λF=>?_) (λF=>?_)
  .refine ρ ?_;refine ld (y.at (i:=2) rfl) ?_;refine ρ ?_;refine Jq ⟨?_,u⟩;rw[Xo,if_neg (Vr h),if_pos (Yp D),decide_eq_true (Yp F),Qzf,Bool.true_and];congr 1
   grind
  refine ρ ?_;refine Jq ⟨?_,u⟩;rw[Xo,if_neg (Vr h),if_pos (Yp D),decide_eq_false (Vr F)];rfl
 refine ρ ?_;refine Jq ⟨?_,u⟩;rw[Xo,if_neg (Vr h),if_neg (Vr D)]
theorem Qkq(h:RowV w v r): Ret Tryz.prog 73 [v] w λu w'=>u=.bool (r.all Xo)/\Ext w w':=by
 obtain⟨A,c,rfl,h2,Z,J⟩:=h;refine Jz Tryz.func73 Tryz.ntmps73 rfl kr rfl ?_;refine ρ ?_;refine Jl (fun (k:Nat)=>[(0,.slice A r.length c),(5,.int .i64 (r.length:Int)),(6,.int .i64 (k:Int))]) (λk w'=>Ext w w'/\k<=r.length/\(r.take k).all Xo=true) (λk=>r.length-k) 0 sB ⟨Ext.refl w,Nat.zero_le _,rfl⟩ ?_;rintro k w1 ⟨F,O,U⟩;refine ρ ?_;refine ci (λh=>?_) (λh=>?_)
 .have lk:k<r.length:=by have:=oT h;omega
  have D:=J.ext F;refine ρ ?_;refine ixq 3 k D lk ?_;refine ρ ?_;refine lds (λj u G=>RdR.cell D lk G) ?_;refine ρ ?_;refine cl (Qql (r.getD k V0) _) ?_;rintro u w2 ⟨rfl,y⟩;refine ρ ?_;refine ci (λh=>?_) (λh=>?_)
  .refine ρ ?_;refine Jq ⟨?_,F.trans y⟩;grind
  refine ρ ?_;have h':Xo (r.getD k V0)=true:=by simpa using h
  refine Jg (k+1) sO ⟨F.trans y,om,?_⟩ om;grind [Xu,V0,lk]
 refine ρ ?_;refine Jq ⟨?_,F⟩;grind
def RelV(w:World)(v:Value)(ar:Nat)(ls:List Row): Prop:=∃ rv,v=.agg #[.int .i64 (ar:Int),rv]/\RowsV w rv ls
theorem RelV.ext{w w':World}{v:Value}{ar:Nat}{ls:List Row}(h:RelV w v ar ls)(hx:Ext w w'): RelV w' v ar ls:=by
 obtain⟨u,e,h⟩:=h;exact⟨u,e,h.ext hx⟩
theorem Yu: Qu Tryz.prog 35=some (.agg #[.int .i64 0,.slice none 0 0]):=kr
theorem Jwk(w:World): (Instr.build 35 #[]).run Tryz.prog w=.ok (.agg #[.int .i64 0,.slice none 0 0]) w:=kr
theorem Qnk(z:Int)(w:World): (Instr.build 35 #[(0,.int .i64 z)]).run Tryz.prog w=.ok (.agg #[.int .i64 z,.slice none 0 0]) w:=kr
theorem Qnh(z:Int)(A:Option Addr)(n c:Nat)(w:World): (Instr.build 35 #[(0,.int .i64 z),(1,.slice A n c)]).run Tryz.prog w=.ok (.agg #[.int .i64 z,.slice A n c]) w:=kr
theorem Vy: ∀ u∈[Value.int .i64 z,.slice A n c],u.oneCell'=true:=by
 intro u y;simp at y;rcases y with rfl|rfl<;>rfl
theorem Qwj(z:Int)(w:World): Ret Tryz.prog 44 [.int .i64 z] w λv w'=>Ext w w'/\∃ z' e,v=.tuple #[.agg #[.int .i64 z',.slice none 0 0],.int .i64 e]/\(e=0->z'=z)/\(e=0↔0<=z/\z<=32):=by
 refine Jz Tryz.func44 Tryz.ntmps44 rfl kr rfl ?_;refine ρ ?_;refine alc Yu ?_;intro w1 b D F G;refine ρ ?_;refine Kp (fun (t:Bool)=>[(0,.int .i64 z),(2,.pointer (some ⟨b,0,none⟩)),(9,.bool t)]) (λt w'=>w'=w1/\(t=true↔¬ (0<=z/\z<=32))) ?_ ?_
 .refine ki 6 (λh=>?_) (λh=>?_)
  .refine ρ ?_;exact Js true sB ⟨rfl,by grind⟩
  refine ρ ?_;refine Js _ sB ⟨rfl,?_⟩;grind
 rintro t w' ⟨rfl,ht⟩;refine ci (λh=>?_) (λh=>?_)
 .refine ρ ?_;refine bld (Jwk _) ?_;refine ρ ?_;refine stb G ?_ Vy;intro w2 y _ u;refine ρ ?_;exact Zz y ⟨u w D F,0,3,rfl,λe=>(by cases e),⟨λe=>(by cases e),λe=>absurd e (ht.1 h)⟩⟩
 refine ρ ?_;refine bld (Qnk z _) ?_;refine ρ ?_;refine stb G ?_ (Vy (z:=z) (A:=none) (n:=0) (c:=0));intro w2 y _ u;refine ρ ?_;refine Zz y ⟨u w D F,z,0,rfl,λ_=>rfl,⟨λ_=>?_,λ_=>rfl⟩⟩;grind
theorem Qpl(hs:sv=.slice A n c)(h:RowV w v r): Ret Tryz.prog 45 [.agg #[.int .i64 ar,sv],v] w λu w'=>Ext w w'/\∃ e,u=.int .i64 e/\(e=0↔(r.length:Int)=ar/\r.all Xo=true):=by
 subst hs;obtain⟨B,c',rfl,F,h3,U⟩:=id h;refine Jz Tryz.func45 Tryz.ntmps45 rfl kr rfl ?_;refine ρ ?_;refine bx ?_;intro w1 b y Z G;refine ρ ?_;refine ld (G.at (i:=0) rfl) ?_;refine ρ ?_;refine ci (λh=>?_) (λJ=>?_)
 .refine ρ ?_;exact Jq ⟨y,6,rfl,⟨λe=>(by cases e),λe=>absurd e.1 (Jzr h)⟩⟩
 have O:=Jzs J;refine ρ ?_;refine cl (Qkq (h.ext y)) ?_;rintro u w2 ⟨rfl,D⟩;refine ρ ?_;refine ci (λh=>?_) (λF=>?_)
 .refine ρ ?_;refine Jq ⟨y.trans D,4,rfl,⟨λe=>(by cases e),λe=>?_⟩⟩;rw[e.2]at h;cases h
 refine ρ ?_;refine Jq ⟨y.trans D,0,rfl,⟨λ_=>⟨O,by simpa using F⟩,λ_=>rfl⟩⟩
open Go.RowKit Pl Go.Wk
variable {ps:List Pr}{ar base c n:Nat}{N:Nat->Prop}{A:Option Addr}{row:Option Nat}{v:Value}{w:World}
theorem RowX.off{r:Row}(h:RowX w N v r): Off N w (λu=>RowV u v r):=by
 obtain⟨A,c,O,J,G,F,D⟩:=h;intro w' y;refine⟨A,c,O,J,G,Zg F y λh0 U e=>D (λZ=>?_) U e⟩;grind [Je]
theorem Jsd(h:∀ p∈ps,Off (one row) w (λu=>RowV u p.1 p.2)): CF w row 75 #[] #[] ps []:=λw' y p q F D=>
 Jhg (h p F w' (GrN.by y λk e=>e)) (h q D w' (GrN.by y λk e=>e))
theorem eqRow(h:∀ p∈ps,Off (one row) w (λu=>RowV u p.1 p.2)): EqF w row 78 #[] #[] ps:=λw' y p q F D=>
 Qks (h p F w' (GrN.by y λk e=>e)) (h q D w' (GrN.by y λk e=>e))
theorem ownB(A:Option Addr)(n c m d:Nat): (Value.slice A n c).ownBlock=(Value.slice A m d).ownBlock:=by cases A<;>rfl
theorem Qkp(hD:Dat w base (.slice A n c) ps)(hn:ps.length=n)(hmx:n<=1100000)(hnc:n<=c)(hN:∀ k,(Value.slice A n c).ownBlock=some k->¬ N k)(hr:∀ p∈ps,Off N w (λu=>RowV u p.1 p.2)): Off N w (λu=>RowsV u (.slice A n c) (ps.map (·.2))):=by
 intro w' y;refine⟨ps,A,c,rfl,by rw[hn],om,om,?_,λp D=>hr p D w' y⟩;rw[hn];refine Zg (hD.rd hn) y λ_ F e=>?_;subst e;exact hN _ rfl
def RowsP(N:Nat->Prop)(w:World)(v:Value)(ls:List Row): Prop:=∃(ps:List Pr) (A:Option Addr) (c:Nat),ls=ps.map (·.2)/\v=.slice A ps.length c/\ps.length<=c/\ps.length<=1100000/\Off N w (λu=>Rd u 1 A ps.length (ps.map (·.1)))/\∀ p∈ps,Off N w (λu=>RowV u p.1 p.2)
theorem RowsP.off{ls:List Row}(h:RowsP N w v ls): Off N w (λu=>RowsV u v ls):=by
 obtain⟨ps,A,c,Z,U,O,J,G,F⟩:=h;exactλu y=>⟨ps,A,c,Z,U,O,J,G u y,λp D=>F p D u y⟩
theorem rowsP(hD:Dat w base (.slice A n c) ps)(hn:ps.length=n)(hmx:n<=1100000)(hnc:n<=c)(hN:∀ k,(Value.slice A n c).ownBlock=some k->¬ N k)(hr:∀ p∈ps,Off N w (λu=>RowV u p.1 p.2)): RowsP N w (.slice A n c) (ps.map (·.2)):=by
 refine⟨ps,A,c,rfl,by rw[hn],om,om,λw' y=>?_,hr⟩;rw[hn];refine Zg (hD.rd hn) y λ_ D e=>?_;subst e;exact hN _ rfl
theorem Jsj(hD:Dat w base (.slice A n c) ps)(hn:ps.length=n)(hmx:n<=1100000)(hnc:n<=c)(hr:∀ p∈ps,Off (one (Value.slice A n c).ownBlock) w (λu=>RowV u p.1 p.2)):
  Ret Tryz.prog 46 [.int .i64 (ar:Int),.slice A n c] w λv w'=>w.grownBy w' (Value.slice A n c).ownBlock/\∃ rv e,v=.tuple #[rv,.int .i64 e]/\(∃ z B m d,rv=.agg #[.int .i64 z,.slice B m d])/\(n<=65536->e=0) /\
   (e=0->∃ m,Off (λk=>k<w.heap.size/\(Value.slice A n c).ownBlock≠some k) w' (λu=>RelV u rv ar m)/\m.length<=65536/\(∀ x∈m,x∈ps.map (·.2))/\((n<=65536∨Srt [] (ps.map (·.2)))->IsSet [] (ps.map (·.2)) m)):=by
 refine Jz Tryz.func46 Tryz.ntmps46 rfl kr rfl ?_;refine ρ ?_;refine alc Yu ?_;intro w1 b a2 hb hB;have aw:=hD.ext a2;have aa:∀ p∈ps,Off (one (Value.slice A n c).ownBlock) w1 (λu=>RowV u p.1 p.2):=λp Z=>(hr p Z).ext a2;obtain⟨own,F⟩:∃ own,own=(Value.slice A n c).ownBlock:=⟨_,rfl⟩;have a6:∀ k,own=some k->k<w.heap.size:=λk e=>by
  obtain⟨_,_,_,_,hf⟩:=Jy hD.1;grind
 refine ρ ?_;refine cl (Qfr (aw.rd hn) hn hmx (Jsd aa)) ?_;rintro v w2 ⟨a5,t,rfl,ht⟩;refine ρ ?_;refine Xg (fun (q:List Pr)=>[(0,.int .i64 (ar:Int)),(1,.slice A n c),(4,.pointer (some ⟨b,0,none⟩))]) (λq w'=>DP w1 w' base A n c ps q/\Blk w' b 35 [.int .i64 0,.slice none 0 0]/\((n<=65536∨Srt [] (ps.map (·.2)))->Srt [] (q.map (·.2)))) ?_ ?_
 .have H2:=(DP.start aw hn).ext a5;refine ci (λh=>?_) (λh=>?_)
  .have ay:¬ SOn z0 (fP []) ps 0 n:=by grind
   refine ρ ?_;refine cl (Qzm H2.d H2.l hmx ((Jsd aa).step H2)) ?_;rintro v w3 ⟨q,H3,hs⟩;refine ρ ?_;refine Js q sB ⟨H2.after H3,(hB.ext a5).grown H3.g ((hB.ext a5).ne_own H2.d.1 rfl),λe=>?_⟩;rcases e with e|e
   .exact Jfw (by rw[H3.l];exact hs e)
   exfalso
   apply ay
   intro i j _ bc hj;have e':=(List.pairwise_map.1 e);grind [List.pairwise_iff_getElem,fP,Ql,z0]
  have b2:t=true:=by simpa using h
  refine ρ ?_;exact Js ps sB ⟨H2,hB.ext a5,λ_=>Jfw (by rw[hn];exact ht.1 b2)⟩
 rintro q w3 ⟨H3,ax,b3⟩;have ak:∀ p∈q,Off (one (Value.slice A n c).ownBlock) w3 (λu=>RowV u p.1 p.2):=λp Z=>(aa p (H3.p.mem_iff.1 Z)).grown H3.g λk e=>e;refine ρ ?_;refine cl (Qlm H3.d H3.l hmx hnc (eqRow ak)) ?_;rintro v w4 ⟨y,rfl,av,ad,ah,ac⟩;have bb:y.length<=n:=by
  have:=Jxf (q.map (·.2))
  rw[<-ad,List.length_map,List.length_map,H3.l]at this;exact this
 have af:=ax.grown ac (ax.ne_own H3.d.1 rfl);have aj:∀ p∈y,Off (one own) w4 (λu=>RowV u p.1 p.2):=λp Z=>by rw[F];exact(ak p (ah p Z)).grown ac λk e=>e
 have a3:w1.grownBy w4 own:=by rw[F];exact Xv H3.g ac
 have b6:((n<=65536∨Srt [] (ps.map (·.2)))->IsSet [] (ps.map (·.2)) (y.map (·.2))):=λe=>by
  have h1:=Jrj (b3 e);rw[<-ad]at h1;exact⟨h1.1,λx=>(h1.2 x).trans ((H3.p.map (·.2)).mem_iff)⟩
 generalize hm:y.length=m at *
 refine ρ ?_;refine ci (λh=>?_) (λh=>?_)
 .have b7:65536<m:=by have:=oT h;omega
  refine ρ ?_;refine bld (Jwk _) ?_;refine ρ ?_;refine stb af ?_ Vy;intro w5 a4 D b9;refine ρ ?_;refine Zz a4 ⟨?_,_,11,rfl,⟨0,none,0,0,rfl⟩,λe=>(by omega),λe=>(by cases e)⟩;have g1:=Xv (Xc a2 own) a3;rw[<-F];exact⟨D.os.trans g1.os,D.tape.trans g1.tape,D.output.trans g1.output,Nat.le_trans g1.size D.size,λk hk hn=>(D.block k (nM hk g1.size) (λe=>by injection e with e;omega)).trans (g1.block k hk hn)⟩
 have ba:m<=65536:=by grind
 clear h;obtain⟨N',a7⟩:∃ N':Nat->Prop,N'=λk=>k<w1.heap.size∨own=some k:=⟨_,rfl⟩;have ap:(Value.slice A m c).ownBlock=own:=by grind [ownB]
 refine ρ ?_;refine Qd (fun (k:Nat) (U:List Pr)=>[(0,.int .i64 (ar:Int)),(1,.slice A m c),(4,.pointer (some ⟨b,0,none⟩)),(19,.int .i64 (m:Int)),(20,.int .i64 (k:Int))])
  (λk U w'=>k<=m/\U.length=k/\U.map (·.2)=(y.take k).map (·.2)/\Dat w' base (.slice A m c) (U++y.drop k)/\(∀ p∈U,Off N' w' (λu=>RowV u p.1 p.2))/\(∀ p∈y,Off (one own) w' (λu=>RowV u p.1 p.2))/\Blk w' b 35 [.int .i64 0,.slice none 0 0]/\w1.grownBy w' own) (λk _=>m-k) 0 [] sB
  ⟨Nat.zero_le _,rfl,rfl,by simpa using av,λp Z=>(by cases Z),aj,af,a3⟩ ?_
 clear av aj af a3;rintro k U w5 ⟨hk,an,am,O,a8,ai,a4,D⟩;refine ρ ?_;have G:(U++y.drop k).length=m:=by simp;omega
 refine ci (λh=>?_) (λh=>?_)
 .have lk:k<m:=by have:=oT h;omega
  have au:(U++y.drop k).getD k z0=y.getD k z0:=by grind
  have aq:y.getD k z0∈y:=Vz hm lk;refine ρ ?_;refine ix k (O.rd G) lk ?_;refine ρ ?_;refine ld (O.cell G lk) ?_;rw[au];refine ρ ?_;refine cl (Jcm (ai _ aq).here N' (λj hj=>?_)) ?_
  .subst a7;rcases hj with h'|h'
   .exact nM h' D.size
   exact nM (a6 j h') (nL a2.size D.size)
  rintro v6 w6 ⟨a9,a1⟩;have ae:=O.ext a1;obtain⟨s1,s2,s3⟩:=ae.store G lk (p:=(v6,(y.getD k z0).2)) a9.v.one;refine ρ ?_;refine ix k (ae.rd G) lk ?_;refine ρ ?_;refine sto (ae.cell G lk) s1 ?_ (hv:=a9.v.one);refine ρ ?_;have e:(U++y.drop k).set k (v6,(y.getD k z0).2)=(U++[(v6,(y.getD k z0).2)])++y.drop (k+1):=by
   rw[List.set_append_right _ _ om,an,Nat.sub_self,List.drop_eq_getElem_cons om,List.set_cons_zero,List.append_assoc];rfl
  rw[e]at s2;rw[ap]at s3;refine Qv (k+1) (U++[(v6,(y.getD k z0).2)]) sO ⟨om,by simp[an],?_,s2,λp Z=>?_,λp Z=>?_,?_,?_⟩ om
  .grind [Xu,z0]
  .rcases List.mem_append.1 Z with h'|h'
   .exact((a8 p h').ext a1).grown s3 (λk e=>by rw[a7];exact .inr e)
   rw[List.mem_singleton.1 h'];exact a9.off.grown s3 (λk e=>by rw[a7];exact .inr e)
  .exact((ai p Z).ext a1).grown s3 (λk e=>e)
  .have h7:=a4.ext a1;refine h7.grown s3 ?_;grind
  exact Xv D (Xv (Xc a1 _) s3)
 have e:k=m:=by have:=oF h;omega
 subst e;rw[List.drop_of_length_le om,List.append_nil]at O G;rw[List.take_of_length_le om]at am;refine ρ ?_;refine bld (Qnh (ar:Int) A k c _) ?_;refine ρ ?_;refine stb a4 ?_ (Vy (z:=(ar:Int)) (A:=A) (n:=k) (c:=c));intro w7 b5 J b8;refine ρ ?_;have bd:N' b:=by rw[a7];exact .inl hB.lt
 have b4:Dat w7 base (.slice A k c) U:=⟨O.1.kept J (.inr (λe=>a4.ne_own O.1 rfl e.symm)),O.2⟩;have ao:=Qkp (N:=λj=>j<w.heap.size/\own≠some j) b4 G om om (λj ej hj=>hj.2 (by rw[<-ej,ap])) (λp Z=>((a8 p Z).grown J (λj ej=>by grind)).mono λj _ hj=>by grind);refine Zz b5 ⟨?_,_,0,rfl,⟨_,_,_,_,rfl⟩,λ_=>rfl,λ_=>⟨U.map (·.2),?_,by rw[List.length_map];omega,?_,?_⟩⟩
 .have g1:=Xv (Xc a2 own) D;rw[<-F];exact⟨J.os.trans g1.os,J.tape.trans g1.tape,J.output.trans g1.output,Nat.le_trans g1.size J.size,λj hj hn=>(J.block j (nM hj g1.size) (λe=>by injection e with e;omega)).trans (g1.block j hj hn)⟩
 .rw[<-F];exact ao.imp λu hu=>⟨_,rfl,hu⟩
 .intro x hx;rw[am,ad]at hx;have:x∈q.map (·.2):=by grind
  exact(H3.p.map (·.2)).mem_iff.1 this
 repeat grind
open Go.RowKit Pl Go.Wk
variable {ar b c n:Nat}{a w w':World}
theorem Qms(w:World): (Instr.buildSlice 33 0 #[]).run Tryz.prog w=.ok (.slice (some ⟨w.heap.size,0,none⟩) 0 0) (w.alloc (.cells [].toArray 73)):=kr
theorem Qml{A:Option Addr}{ps:List Pr}(hR:Rd w 1 A n (ps.map (·.1)))(hn:ps.length=n)(hmx:n<=1100000)(h1:∀ p∈ps,p.1.oneCell'=true):
  Ret Tryz.prog 47 [.slice A n c] w λv' w'=>Ext w w'/\∃ B d,v'=.slice B n d/\n<=d/\Dat w' w.heap.size (.slice B n d) ps:=by
 refine Jz Tryz.func47 Tryz.ntmps47 rfl kr rfl ?_;refine ρ ?_;refine snil ?_;refine ρ ?_;refine ci (λh=>?_) (λh=>?_)
 .have hA:A=none:=by simpa using h
  subst hA;have J:n=0:=by
   rcases Nat.eq_zero_or_pos n with h0|h0
   .exact h0
   obtain⟨ad,h2,_⟩:=hR.isome h0 om;cases h2
  subst J;obtain rfl:=List.eq_nil_of_length_eq_zero hn;refine ρ ?_;exact Jq ⟨Ext.refl w,none,0,rfl,Nat.le_refl _,⟨Xj _ _ _ _,λp Z=>by cases Z⟩⟩
 refine ρ ?_;refine bsl Qms ?_;intro w1 b D U O;refine ρ ?_;refine apo D ER (O.own (n:=0) U rfl (Nat.zero_le _)) (hR.ext D) (λu hu=>by grind) (by unfold maxLen;omega) om ?_;intro v2 w2 y G _ _;obtain⟨A2,c2,rfl,F,hf⟩:=Jy y;refine ρ ?_;rw[Nat.zero_add]at y F ⊢;refine Jq ⟨G,A2,c2,rfl,F,⟨?_,h1⟩⟩;rw[hn];exact y
theorem Jbl(hx:Ext a w)(hg:w.grownBy w' (some b))(hb:a.heap.size<=b): Ext a w':=by grind [Jr]
theorem Jhl{v:Value}{ls:List Row}(h:RowsV w v ls):
  Ret Tryz.prog 24 [.int .i64 (ar:Int),v] w λu w'=>Ext w w'/\∃ rv e,u=.tuple #[rv,.int .i64 e]/\(∃ z B m d,rv=.agg #[.int .i64 z,.slice B m d])/\(ar<=32->(∀ r∈ls,r.length=ar/\r.all Xo=true)->ls.length<=65536->e=0) /\
   (e=0->ar<=32/\(∀ r∈ls,r.length=ar/\r.all Xo=true)/\∃ m,Off (λk=>k<w.heap.size) w' (λu=>RelV u rv ar m)/\m.length<=65536/\(∀ x∈m,x∈ls)/\((ls.length<=65536∨Srt [] ls)->IsSet [] ls m)):=by
 obtain⟨ps,A,c,rfl,rfl,ba,ai,hR,a1⟩:=h;generalize hn:ps.length=n at *
 have b8:∀ i,(ps.map (·.2)).getD i []=(ps.getD i z0).2:=λi=>Jkf
 have af:∀ p∈ps,p.1.oneCell'=true:=λp hp=>(a1 p hp).one;refine Jz Tryz.func24 Tryz.ntmps24 rfl kr rfl ?_;refine ρ ?_;refine alc Yu ?_;intro w1 b av hb hB;refine ρ ?_;refine cl (Qwj (ar:Int) w1) ?_;rintro v2 w2 ⟨ae,z',e2,rfl,ak,F⟩;refine ρ ?_;refine alc Yu ?_;intro w3 b3 au b2 b7;refine ρ ?_;refine stb b7 ?_ (Vy (z:=z') (A:=none) (n:=0) (c:=0));intro w4 b6 bc aq;have a6:Ext w1 w4:=aq w1 (ae.trans au) (nL ae.size b2);have J:=av.trans a6;have ac:=hB.ext a6;refine ρ ?_;refine ci (λh=>?_) (λh=>?_)
 .have a7:=Jzr h;refine ρ ?_;refine bld (Jwk _) ?_;refine ρ ?_;refine stb ac ?_ Vy;intro w5 aa bb U;refine ρ ?_;refine Zz aa ⟨U w J hb,_,e2,rfl,⟨0,none,0,0,rfl⟩,λh1 _ _=>F.2 om,λe=>absurd e a7⟩
 have hz:=Jzs h;subst hz;have b4:ar<=32:=by have:=F.1 rfl;omega
 have an:=ak rfl;subst an;clear h ak F;refine ρ ?_;refine Jl (fun (k:Nat)=>[(0,.int .i64 (ar:Int)),(1,.slice A n c),(4,.pointer (some ⟨b,0,none⟩)),(6,.pointer (some ⟨b3,0,none⟩)),(20,.int .i64 (n:Int)),(21,.int .i64 (k:Int))])
  (λk w'=>Ext w4 w'/\k<=n/\∀ i,i<k->(ps.getD i z0).2.length=ar/\(ps.getD i z0).2.all Xo=true) (λk=>n-k) 0 sB ⟨Ext.refl _,Nat.zero_le _,λi hi=>om⟩ ?_
 rintro k w5 ⟨U,hk,hI⟩;have y:=J.trans U;refine ρ ?_;refine ci (λh=>?_) (λh=>?_)
 .have lk:k<n:=by have:=oT h;omega
  clear h;refine ρ ?_;refine dr [(0,0),(0,1),(0,2),(0,3),(0,4),(1,5),(0,6)] kr ?_;have a5:=U.drew;have aa:=b6.ext a5;have am:=hR.ext y.drew;refine ρd ?_;refine Qj (cs:=[.int .i64 (ar:Int),.slice none 0 0]) (λj u hu=>aa.at hu) ?_;refine ρd ?_;refine dix k am lk ?_;refine ρd ?_;refine dld (Ij am hn lk) ?_;refine ρd ?_;refine dcl (Qpl (A:=none) (n:=0) (c:=0) rfl ((a1 _ (Vz hn lk)).ext y.drew)) ?_;rintro u w6 ⟨O,e,rfl,F⟩;refine⟨O,?_⟩;refine ρd ?_;refine ρ ?_;have Z:=a5.trans O;refine ci (λh=>?_) (λh=>?_)
  .have a7:=Jzr h;refine ρ ?_;refine bld (Jwk _) ?_;refine ρ ?_;refine stb (ac.ext Z) ?_ Vy;intro w7 a9 a8 ap;refine ρ ?_;refine Zz a9 ⟨ap w (J.trans Z) hb,_,e,rfl,⟨0,none,0,0,rfl⟩,λ_ h2 _=>?_,λe=>absurd e a7⟩;grind
  have hz:=Jzs h;have b9:=F.1 hz;refine ρ ?_;refine Jg (k+1) sO ⟨Z,om,λi hi=>?_⟩ om;grind
 have e:k=n:=by have:=oF h;omega
 subst e;refine ρ ?_;refine cl (Qml (hR.ext y) hn ai af) ?_;rintro u w6 ⟨O,D,d,rfl,hd,a3⟩;have G:=y.trans O;have a2:∀ j,(Value.slice D k d).ownBlock=some j->w5.heap.size<=j/\j<w6.heap.size:=by
  obtain⟨_,_,_,_,hf⟩:=Jy a3.1;grind
 have ah:∀ p∈ps,Off (one (Value.slice D k d).ownBlock) w6 (λu=>RowV u p.1 p.2):=λp hp=>Off.old (a:=w) (λu hu=>(a1 p hp).ext hu) G (λj ej=>nL y.size (a2 j ej).1);refine ρ ?_;refine cl (Jsj (ar:=ar) a3 hn ai hd ah) ?_;rintro u w7 ⟨a8,rv,e,rfl,⟨z,B,m,d',aw⟩,aj,ax⟩;have ad:Ext w w7:=Jr G a8 (λj ej=>nL y.size (a2 j ej).1);have a4:=(ac.ext U).ext O;have a9:=a4.grown a8 (a4.ne_own a3.1 rfl);subst aw;refine ρ ?_;refine stb a9 ?_ (Vy (z:=z) (A:=B) (n:=m) (c:=d'));intro w8 b5 ay ao;refine ρ ?_;refine Zz b5 ⟨ao w ad hb,_,e,rfl,⟨z,B,m,d',rfl⟩,λ_ _ h3=>aj (by grind),λe0=>⟨b4,λr hr=>?_,?_⟩⟩
 .grind [List.mem_map.1,List.getElem_of_mem,Ql,z0]
 obtain⟨ms,m1,m2,m3,m4⟩:=ax e0;refine⟨ms,?_,m2,m3,λhc=>m4 (by grind)⟩;have bd:b<w6.heap.size/\(Value.slice D k d).ownBlock≠some b:=⟨a4.lt,λe=>a4.ne_own a3.1 rfl e.symm⟩;refine(m1.grown ay (λj ej=>by grind)).mono λj _ hj=>⟨nM hj G.size,λe=>?_⟩;have:=(a2 j e).1;have:=y.size;omega
open Go.RowKit Pl Go.Wk
variable {cs:List Nat}{ls:List Row}{ar i k:Nat}{v:Value}{w:World}
theorem Jvz: ∀(q:Row) (i:Nat) (x:V),i<q.length->Je (q.set i x)=(Je q).take (i*3)++x.cells++(Je q).drop (i*3+3)
 | [],i,x,h=>by simp at h
 | v::q,0,x,_=>by
  have e:Je (v::q)=v.cells++Je q:=by simp[Je]
  have e2:Je (x::q)=x.cells++Je q:=by simp[Je]
  rw[List.set_cons_zero,e,e2,Nat.zero_mul,List.take_zero,List.nil_append,Nat.zero_add];congr 1
 | v::q,i+1,x,h=>by
  have ih:=Jvz q i x (by simpa using h);have e:Je (v::q)=v.cells++Je q:=by simp[Je]
  have e2:Je (v::q.set i x)=v.cells++Je (q.set i x):=by simp[Je]
  have hl:v.cells.length=3:=rfl;rw[List.set_cons_succ,e,e2,ih];have e3:(v.cells++Je q).take ((i+1)*3)=v.cells++(Je q).take (i*3):=by grind [List.take_append,List.take_of_length_le]
  grind [Je,List.drop_append,List.drop_of_length_le,List.append_assoc]
theorem Jvx(n:Nat): (madeCells (Value.agg #[.int .i64 0,.int .i64 0,.string ⟨#[]⟩]).cells (n*3)).toList=Je (List.replicate n V0):=by
 apply List.ext_getElem?
 intro k;have y:(Value.agg #[.int .i64 0,.int .i64 0,.string ⟨#[]⟩]).cells = #[.int .i64 0,.int .i64 0,.string ⟨#[]⟩]:=rfl;rw[y];by_cases hk:k<n*3
 .have u:=Jyc (List.replicate n V0) (k / 3) (k % 3) (by simp;omega) om;rw[show k / 3*3+k % 3=k by omega]at u;rw[u];have e:(List.replicate n V0).getD (k / 3) V0=V0:=by grind
  rw[e];have D:k % 3<3:=om
  simp only[madeCells,Array.getElem?_toList,Array.getElem?_map,Array.getElem?_range,hk,if_true,Option.map_some];generalize k % 3=r at *
  have:r=0∨r=1∨r=2:=om
  rcases this with rfl|rfl|rfl<;>rfl
 rw[List.getElem?_eq_none (by simp[madeCells];omega),List.getElem?_eq_none (by grind [Qkv])]
def Jp(zs:List Int): List Value:=zs.map (Value.int .i64)
def IntsV(w:World)(v:Value)(zs:List Int): Prop:=∃ A c,v=.slice A zs.length c/\zs.length<=c/\zs.length<=1100000/\Rd w 1 A zs.length (Jp zs)
theorem IntsV.ext{w w':World}{v:Value}{zs:List Int}(h:IntsV w v zs)(hx:Ext w w'): IntsV w' v zs:=by obtain⟨A,c,F,D,y,u⟩:=h;exact⟨A,c,F,D,y,u.ext hx⟩
theorem Vd{zs:List Int}(h:i<zs.length): (Jp zs)[i]?=some (.int .i64 (zs.getD i 0)):=by simp[Jp,List.getD,List.getElem?_eq_getElem h]
def nz(cs:List Nat): List Int:=cs.map fun (c:Nat)=>(c:Int)
theorem Qn(h:i<cs.length): (Jp (nz cs))[i]?=some (.int .i64 (cs.getD i 0:Int)):=by simp[Jp,nz,List.getD,List.getElem?_eq_getElem h]
theorem Ju(cs:List Nat): (nz cs).length=cs.length:=by simp[nz]
def pmR(cs:List Nat)(r:Row): Row:=cs.map λc=>r.getD c V0
abbrev Yj(w:World)(base:Nat)(v:Value)(q:Row): Prop:=w.ownsRow base 75 3 v q.length (Je q)
theorem Zj(cs:List Nat)(r:Row): (pmR cs r).length=cs.length:=by simp[pmR]
theorem Jlc{r:Row}(hk:k<cs.length): (pmR cs r).getD k V0=r.getD (cs.getD k 0) V0:=by grind [Ql,V0,pmR]
theorem Jqd(h:RelV w v ar ls): Ret Tryz.prog 11 [v] w λu w'=>u=.int .i64 (ls.length:Int)/\Ext w w':=by
 obtain⟨O,rfl,ps,A,c,rfl,rfl,G,F,Z,D⟩:=h;refine Jz Tryz.func11 Tryz.ntmps11 rfl kr rfl ?_;refine ρ ?_;refine bx ?_;intro w1 b y U J;refine ρ ?_;refine ld (J.at (i:=1) rfl) ?_;refine ρ ?_;exact Jq ⟨by rw[List.length_map],y⟩
theorem Jqf(h:RelV w v ar ls): Ret Tryz.prog 31 [v] w λu w'=>u=.int .i64 (ar:Int)/\Ext w w':=by
 obtain⟨O,rfl,ps,A,c,rfl,rfl,G,F,Z,D⟩:=h;refine Jz Tryz.func31 Tryz.ntmps31 rfl kr rfl ?_;refine ρ ?_;refine bx ?_;intro w1 b y U J;refine ρ ?_;refine ld (J.at (i:=0) rfl) ?_;refine ρ ?_;exact Jq ⟨rfl,y⟩
theorem Jyf(h:RelV w v ar ls): Ret Tryz.prog 26 [v] w λu w'=>Ext w w'/\RowsP (λk=>k<w.heap.size) w' u ls:=by
 obtain⟨rv,rfl,ps,A,c,rfl,rfl,ah,ae,hR,a6⟩:=h;generalize hn:ps.length=n at *
 refine Jz Tryz.func26 Tryz.ntmps26 rfl kr rfl ?_;refine ρ ?_;refine bx ?_;intro w0 b U hb hB;refine ρ ?_;refine ld (hB.at (i:=1) rfl) ?_;refine ρ ?_;refine mkn ER n om (by unfold maxLen;omega) ?_;intro w1 O ad a8 hO;have a9:∀ k,(Value.slice O n n).ownBlock=some k->w0.heap.size<=k/\k<w1.heap.size:=by grind [Jy]
 have af:Dat w1 w0.heap.size (.slice O n n) ([]++List.replicate n (.slice none 0 0,[])):=by
  refine⟨?_,λp J=>?_⟩
  .rw[List.nil_append,List.length_replicate,Pr.rep];have e:(madeCells (Value.slice none 0 0).cells (n*1)).toList=List.replicate n (.slice none 0 0):=by rw[Nat.mul_one];exact Yr _ _
   rw[e]at a8;exact a8
  rw[List.nil_append]at J;rw[(List.mem_replicate.1 J).2];rfl
 obtain⟨N,hN⟩:∃ N:Nat->Prop,N=λk=>k<w0.heap.size∨(Value.slice O n n).ownBlock=some k:=⟨_,rfl⟩;refine ρ ?_;refine Qd (fun (k:Nat) (D:List Pr)=>[(1,.pointer (some ⟨b,0,none⟩)),(3,.slice O n n),(10,.int .i64 (n:Int)),(11,.int .i64 (k:Int))])
  (λk D w2=>k<=n/\D.length=k/\D.map (·.2)=(ps.take k).map (·.2)/\Ext w0 w2/\w1.heap.size<=w2.heap.size/\Dat w2 w0.heap.size (.slice O n n) (D++List.replicate (n-k) (.slice none 0 0,[]))/\(∀ p∈D,Off N w2 (λu=>RowV u p.1 p.2))) (λk _=>n-k) 0 [] sB
  ⟨Nat.zero_le _,rfl,rfl,ad,Nat.le_refl _,af,λp J=>(by cases J)⟩ ?_
 rintro k D w2 ⟨hk,a1,a7,G,a5,a4,aa⟩;have y:=U.trans G;refine ρ ?_;refine ci (λh=>?_) (λh=>?_)
 .have lk:k<n:=by have:=oT h;omega
  refine ρ ?_;refine ld ((hB.ext G).at (i:=1) rfl) ?_;refine ρ ?_;refine ix k (hR.ext y) lk ?_;refine ρ ?_;refine ld (Ij (hR.ext y) hn lk) ?_;refine ρ ?_;refine cl (Jcm ((a6 _ (Vz hn lk)).ext y) N (λj hj=>?_)) ?_
  .subst hN;rcases hj with h'|h'
   .exact nM h' G.size
   repeat grind
  rintro v3 w3 ⟨Z,F⟩;have a3:=a4.ext F;have a2:(D++List.replicate (n-k) ((.slice none 0 0,[]):Pr)).length=n:=by simp;omega
  obtain⟨s1,s2,s3⟩:=a3.store a2 lk (p:=(v3,(ps.getD k z0).2)) Z.v.one;refine ρ ?_;refine ix k (a3.rd a2) lk ?_;refine ρ ?_;refine sto (a3.cell a2 lk) s1 ?_ (hv:=Z.v.one);refine ρ ?_;have e:(D++List.replicate (n-k) ((.slice none 0 0,[]):Pr)).set k (v3,(ps.getD k z0).2)=(D++[(v3,(ps.getD k z0).2)])++List.replicate (n-(k+1)) (.slice none 0 0,[]):=by
   rw[show n-k=(n-(k+1))+1 by omega,List.replicate_succ,List.set_append_right _ _ om,a1,Nat.sub_self,List.set_cons_zero,List.append_assoc];rfl
  rw[e]at s2;have ac:∀ j,(Value.slice O n n).ownBlock=some j->N j:=λj ej=>by rw[hN];exact .inr ej
  refine Qv (k+1) (D++[(v3,(ps.getD k z0).2)]) sO ⟨om,by simp[a1],?_,Jr (G.trans F) s3 (λj hj=>(a9 j hj).1),Nat.le_trans a5 (nL F.size s3.size),s2,λp J=>?_⟩ om
  .grind [Xu,z0]
  rcases List.mem_append.1 J with h'|h'
  .exact((aa p h').ext F).grown s3 ac
  rw[List.mem_singleton.1 h'];exact Z.off.grown s3 ac
 have e:k=n:=by have:=oF h;omega
 subst e;rw[Nat.sub_self,List.replicate_zero,List.append_nil]at a4;rw[List.take_of_length_le om]at a7;refine ρ ?_;refine Jq ⟨y,?_⟩;rw[<-a7];refine rowsP a4 a1 ae (nR _) (λj ej hj=>?_) λp J=>(aa p J).mono λj _ hj=>by rw[hN];exact .inl (nM hj U.size)
 have:=(a9 j ej).1;have:=U.size;omega
open Go.RowKit Pl Go.Wk
variable {cs:List Nat}{v vc:Value}{w:World}
theorem Qkr{r:Row}(h:RowV w v r)(hc:IntsV w vc (nz cs))(hlt:∀ c∈cs,c<r.length): Ret Tryz.prog 63 [v,vc] w λu w'=>Ext w w'/\∃ x,u=.tuple #[x,.int .i64 0]/\Off (λk=>k<w.heap.size) w' (λy=>RowV y x (pmR cs r)):=by
 obtain⟨A,ac,rfl,ai,ah,a9⟩:=h;obtain⟨C,cc,rfl,ae,aa,G⟩:=hc;rw[Ju]at *;refine Jz Tryz.func63 Tryz.ntmps63 rfl kr rfl ?_;refine ρ ?_;refine Jl (fun (k:Nat)=>[(0,.slice A r.length ac),(1,.slice C cs.length cc),(10,.int .i64 (cs.length:Int)),(11,.int .i64 (k:Int))]) (λk w'=>w'=w/\k<=cs.length) (λk=>cs.length-k) 0 sB ⟨rfl,Nat.zero_le _⟩ ?_;rintro k w' ⟨rfl,hk⟩;refine ρ ?_;refine ci (λh=>?_) (λh=>?_)
 .have lk:k<cs.length:=by have:=oT h;omega
  have af:=hlt _ (getD_mem' 0 cs lk);refine ρ ?_;refine ix k G lk ?_;refine ρ ?_;refine ld (G.cell (Qn lk)) ?_;refine ρ ?_;refine kf 19 ?_ ?_
  .grind
  refine ρ ?_;refine ix k G lk ?_;refine ρ ?_;refine ld (G.cell (Qn lk)) ?_;refine ρ ?_;refine cf ?_ ?_
  .grind
  refine ρ ?_;exact Jg (k+1) sO ⟨rfl,om⟩ om
 refine ρ ?_;refine mkn EV cs.length om (by unfold maxLen;omega) ?_;intro w4 O a4 a6 hO;rw[Jvx]at a6;have a2:Yj w4 w'.heap.size (.slice O cs.length cs.length) ([]++List.replicate cs.length V0):=by grind
 refine ρ ?_;refine Jl (fun (i:Nat)=>[(0,.slice A r.length ac),(1,.slice C cs.length cc),(7,.slice O cs.length cs.length),(33,.int .i64 (cs.length:Int)),(34,.int .i64 (i:Int))])
  (λi w5=>i<=cs.length/\Ext w' w5/\Yj w5 w'.heap.size (.slice O cs.length cs.length) ((pmR cs r).take i++List.replicate (cs.length-i) V0)) (λi=>cs.length-i) 0 sB
  ⟨Nat.zero_le _,a4,a2⟩ ?_
 rintro i w5 ⟨hi,J,D⟩;have F:((pmR cs r).take i++List.replicate (cs.length-i) V0).length=cs.length:=by simp[Zj];omega
 rw[Yj,F]at D;refine ρ ?_;refine ci (λh0=>?_) (λh0=>?_)
 .have li:i<cs.length:=by have:=oT h0;omega
  have U:=G.ext J;have Z:RdR w5 A r:=Rd.ext a9 J;have lc:=hlt _ (getD_mem' 0 cs li);refine ρ ?_;refine ix i U li ?_;refine ρ ?_;refine ld (U.cell (Qn li)) ?_;refine ρ ?_;refine ixq 3 (cs.getD i 0) Z lc ?_;refine ρ ?_;refine lds (λj u hu=>RdR.cell Z lc hu) ?_;refine ρ ?_;refine ixq 3 i (Rd.own D) li ?_;refine ρ ?_;refine stoE (cs:=(r.getD (cs.getD i 0) V0).cells) D li ?_ (V.one _);intro w6 a5 a8;have a3:Ext w' w6:=Jr J a8 (λk hk=>by grind [Jy]);refine ρ ?_;refine Jg (i+1) sO ⟨om,a3,?_⟩ om;have e:((pmR cs r).take i++List.replicate (cs.length-i) V0).set i (r.getD (cs.getD i 0) V0)=(pmR cs r).take (i+1)++List.replicate (cs.length-(i+1)) V0:=by
   have hl:((pmR cs r).take i).length=i:=by simp[Zj];omega
   rw[List.set_append_right _ _ om,hl,Nat.sub_self,show cs.length-i=(cs.length-(i+1))+1 by omega,List.replicate_succ,List.set_cons_zero,List.take_succ_eq_append_getElem (by rw[Zj];omega),List.append_assoc];rw[<-Jlc li,Ql V0 _ (by rw[Zj];omega)];rfl
  have a1:((pmR cs r).take (i+1)++List.replicate (cs.length-(i+1)) V0).length=cs.length:=by grind
  rw[Yj,a1,<-e,Jvz _ _ _ (by rw[F];omega)];exact a5
 have a7:i=cs.length:=by have:=oF h0;omega
 subst a7;rw[Nat.sub_self,List.replicate_zero,List.append_nil,List.take_of_length_le (by rw[Zj];omega)]at D;refine ρ ?_;refine Xx ⟨J,_,rfl,?_⟩;obtain⟨_,_,_,_,hf⟩:=Jy D;intro y hg;refine⟨O,cs.length,by rw[Zj],by rw[Zj];omega,by rw[Zj];omega,?_⟩;rw[RdR,Zj];refine Zg (Rd.own D) hg λ_ ad e=>?_;grind
theorem Jhk{ar:Nat}{ls:List Row}(h:RelV w v ar ls)(hc:IntsV w vc (nz cs))(hlen:∀ r∈ls,r.length=ar)(hlt:∀ c∈cs,c<ar)(h32:cs.length<=32)(hbig:ls.length<=65536):
  Ret Tryz.prog 32 [v,vc] w λu w'=>Ext w w'/\∃ rv,u=.tuple #[rv,.int .i64 0]/\(∃ z B m d,rv=.agg #[.int .i64 z,.slice B m d])/\∃ m,Off (λk=>k<w.heap.size) w' (λx=>RelV x rv cs.length m)/\m.length<=65536/\(∀ x∈m,x∈ls.map (pmR cs))/\((ls.length<=65536∨Srt [] (ls.map (pmR cs)))->IsSet [] (ls.map (pmR cs)) m):=by
 obtain⟨rv,rfl,ps,A,c,rfl,rfl,be,b4,hR,ai⟩:=h;obtain⟨C,cc,rfl,bg,bf,b7⟩:=id hc;generalize hn:ps.length=n at *
 rw[List.length_map,hn]at hbig;have a9:∀ p∈ps,p.2.length=ar:=by grind
 rw[Ju]at *;refine Jz Tryz.func32 Tryz.ntmps32 rfl kr rfl ?_;refine ρ ?_;refine bx ?_;intro w1 b1 U bi bd;refine ρ ?_;refine alc Yu ?_;intro w2 b2 af b8 bc;have a4:=U.trans af;have a6:=bd.ext af;refine ρ ?_;refine cf ?_ ?_
 .grind
 refine ρ ?_;refine Jl (fun (k:Nat)=>[(1,.slice C cs.length cc),(2,.pointer (some ⟨b1,0,none⟩)),(4,.pointer (some ⟨b2,0,none⟩)),(14,.int .i64 (cs.length:Int)),(15,.int .i64 (k:Int))]) (λk w'=>Ext w2 w'/\k<=cs.length) (λk=>cs.length-k) 0 sB ⟨Ext.refl _,Nat.zero_le _⟩ ?_;rintro k w3 ⟨a2,hk⟩;refine ρ ?_;refine ci (λh=>?_) (λh=>?_)
 .have lk:k<cs.length:=by have:=oT h;omega
  have ap:=hlt _ (getD_mem' 0 cs lk);clear h;refine ρ ?_;refine dr [(0,0),(0,1),(0,2),(0,3),(0,4),(0,5),(0,6),(0,7),(0,8),(0,9),(0,10),(0,11),(0,12),(0,13)] kr ?_;have a7:=a2.drew;have D:=b7.ext (a4.trans a7);refine ρd ?_;refine dix k D lk ?_;refine ρd ?_;refine dld (D.cell (Qn lk)) ?_;refine ρd ?_;refine dkf 23 ?_ ?_
  .grind
  refine ρd ?_;refine dix k D lk ?_;refine ρd ?_;refine dld (D.cell (Qn lk)) ?_;refine ρd ?_;refine dld ((a6.ext a7).at (i:=0) rfl) ?_;refine ρd ?_;refine ρ ?_;refine cf ?_ ?_
  .grind
  refine ρ ?_;exact Jg (k+1) sO ⟨a7,om⟩ om
 clear h hk;have G:=a4.trans a2;have a5:=a6.ext a2;refine ρ ?_;refine ld (a5.at (i:=1) rfl) ?_;refine ρ ?_;refine mkn ER n om (by unfold maxLen;omega) ?_;intro w4 O aw am hO;have ac:∀ k,(Value.slice O n n).ownBlock=some k->w3.heap.size<=k/\k<w4.heap.size:=by grind [Jy]
 have b9:Dat w4 w3.heap.size (.slice O n n) ([]++List.replicate n (.slice none 0 0,[])):=by
  refine⟨?_,λp hp=>?_⟩
  .rw[List.nil_append,List.length_replicate,Pr.rep];have e:(madeCells (Value.slice none 0 0).cells (n*1)).toList=List.replicate n (.slice none 0 0):=by rw[Nat.mul_one];exact Yr _ _
   rw[e]at am;exact am
  rw[List.nil_append]at hp;rw[(List.mem_replicate.1 hp).2];rfl
 obtain⟨N,hN⟩:∃ N:Nat->Prop,N=λk=>k<w3.heap.size∨(Value.slice O n n).ownBlock=some k:=⟨_,rfl⟩;refine ρ ?_;refine Qd (fun (k:Nat) (F:List Pr)=>[(1,.slice C cs.length cc),(2,.pointer (some ⟨b1,0,none⟩)),(4,.pointer (some ⟨b2,0,none⟩)),(7,.slice O n n),(39,.int .i64 (n:Int)),(40,.int .i64 (k:Int))])
  (λk F w5=>k<=n/\F.length=k/\F.map (·.2)=(ps.take k).map (λp=>pmR cs p.2)/\Ext w3 w5/\w4.heap.size<=w5.heap.size/\Dat w5 w3.heap.size (.slice O n n) (F++List.replicate (n-k) (.slice none 0 0,[]))/\(∀ p∈F,Off N w5 (λu=>RowV u p.1 p.2))) (λk _=>n-k) 0 [] sB
  ⟨Nat.zero_le _,rfl,rfl,aw,Nat.le_refl _,b9,λp hp=>(by cases hp)⟩ ?_
 rintro k F w5 ⟨hk,a8,ak,J,ah,Z,aq⟩;have y:=G.trans J;refine ρ ?_;refine ci (λh=>?_) (λh=>?_)
 .have lk:k<n:=by have:=oT h;omega
  have ay:(ps.getD k z0).2.length=ar:=a9 _ (Vz hn lk);refine ρ ?_;refine ld ((a5.ext J).at (i:=1) rfl) ?_;refine ρ ?_;refine ix k (hR.ext y) lk ?_;refine ρ ?_;refine ld (Ij (hR.ext y) hn lk) ?_;refine ρ ?_;refine cl (Qkr ((ai _ (Vz hn lk)).ext y) (hc.ext y) (λc ap=>by rw[ay];exact hlt c ap)) ?_;rintro u w6 ⟨a1,x,rfl,aj⟩;have ad:=Z.ext a1;have aa:(F++List.replicate (n-k) ((.slice none 0 0,[]):Pr)).length=n:=by simp;omega
  have U:x.oneCell'=true:=aj.here.one;obtain⟨s1,s2,s3⟩:=ad.store aa lk (p:=(x,pmR cs (ps.getD k z0).2)) U;refine ρ ?_;refine ix k (ad.rd aa) lk ?_;refine ρ ?_;refine sto (ad.cell aa lk) s1 ?_ (hv:=U);refine ρ ?_;have e:(F++List.replicate (n-k) ((.slice none 0 0,[]):Pr)).set k (x,pmR cs (ps.getD k z0).2)=(F++[(x,pmR cs (ps.getD k z0).2)])++List.replicate (n-(k+1)) (.slice none 0 0,[]):=by
   rw[show n-k=(n-(k+1))+1 by omega,List.replicate_succ,List.set_append_right _ _ om,a8,Nat.sub_self,List.set_cons_zero,List.append_assoc];rfl
  rw[e]at s2;have au:∀ j,(Value.slice O n n).ownBlock=some j->N j:=λj ej=>by rw[hN];exact .inr ej
  refine Qv (k+1) (F++[(x,pmR cs (ps.getD k z0).2)]) sO ⟨om,by simp[a8],?_,Jr (J.trans a1) s3 (λj hj=>(ac j hj).1),Nat.le_trans ah (nL a1.size s3.size),s2,λp hp=>?_⟩ om
  .grind [Xu,z0]
  rcases List.mem_append.1 hp with h'|h'
  .exact((aq p h').ext a1).grown s3 au
  rw[List.mem_singleton.1 h'];refine(aj.mono λj _ hj=>?_).grown s3 au;rw[hN]at hj;rcases hj with h'|h'
  .exact nM h' J.size
  repeat grind
 have e:k=n:=by have:=oF h;omega
 subst e;rw[Nat.sub_self,List.replicate_zero,List.append_nil]at Z;rw[List.take_of_length_le om]at ak;have b5:F.map (·.2)=(ps.map (·.2)).map (pmR cs):=by rw[ak,List.map_map];rfl
 refine ρ ?_;refine cl (Jsj (ar:=cs.length) Z a8 b4 (nR _) (λp hp=>(aq p hp).mono λj _ hj=>by rw[hN];exact .inr hj)) ?_;rintro u w7 ⟨an,rv,e,rfl,⟨z,B,m,d',ax⟩,ao,b3⟩;have he:=ao hbig;subst he;have ae:Ext w w7:=Jr y an (λj ej=>nL G.size (ac j ej).1);have a3:=(bc.ext a2).ext J;have bb:=a3.grown an (a3.ne_own Z.1 rfl);subst ax;refine ρ ?_;refine stb bb ?_ (Vy (z:=z) (A:=B) (n:=m) (c:=d'));intro w8 ba b6 av;refine ρ ?_;obtain⟨ms,m1,m2,m3,m4⟩:=b3 rfl;rw[b5]at m3 m4;refine Zz ba ⟨av w ae (nL U.size b8),_,rfl,⟨z,B,m,d',rfl⟩,ms,?_,m2,m3,λhc=>m4 (by grind)⟩;have bh:b2<w5.heap.size/\(Value.slice O k k).ownBlock≠some b2:=⟨a3.lt,λe=>a3.ne_own Z.1 rfl e.symm⟩;refine(m1.grown b6 (λj ej=>by grind)).mono λj _ hj=>⟨nM hj y.size,λe=>?_⟩;have:=(ac j e).1;have:=G.size;omega
open Go.RowKit Pl Go.Wk
variable {t:Bool}{n:Int}{bs:List Bool}{c g i j:Nat}{A:Option Addr}{u v:Value}{w:World}
structure Atm where
 vars: List Int
 ar:Nat
 rows:List Row
abbrev V3:= Value×Value×Value
def V3.cells(t:V3): List Value:=[t.1,t.2.1,t.2.2]
def AtV(w:World)(t:V3)(a:Atm): Prop:=IntsV w t.1 a.vars/\t.2.1=.int .i64 (a.ar:Int)/\RowsV w t.2.2 a.rows
theorem AtV.ext{w w':World}{t:V3}{a:Atm}(h:AtV w t a)(hx:Ext w w'): AtV w' t a:=⟨h.1.ext hx,h.2.1,h.2.2.ext hx⟩
theorem AtV.rel{t:V3}{a:Atm}(h:AtV w t a): RelV w (.agg #[t.2.1,t.2.2]) a.ar a.rows:=⟨t.2.2,by rw[h.2.1],h.2.2⟩
theorem AtV.one{t:V3}{a:Atm}(h:AtV w t a): ∀ u∈t.cells,u.oneCell'=true:=by
 obtain⟨⟨A,c,G,_⟩,F,⟨ps,B,d,_,D,_⟩⟩:=h;intro u y;simp only[V3.cells,List.mem_cons,List.not_mem_nil,or_false]at y;rcases y with rfl|rfl|rfl
 .rw[G];rfl
 .rw[F];rfl
 rw[D];rfl
def v30: V3:=(undef,undef,undef)
def a0: Atm:=⟨[],0,[]⟩
abbrev TA:= V3×Atm
def ta0: TA:=(v30,a0)
def atC(ts:List TA): List Value:=ts.flatMap λp=>p.1.cells
theorem Jtm: ∀(r:List TA) (i j:Nat),i<r.length->j<3->(atC r)[i*3+j]?=(r.getD i ta0).1.cells[j]?
 | [],i,j,h,_=>by simp at h
 | v::r,0,j,_,hj=>by
  simp only[atC,List.flatMap_cons,Nat.zero_mul,Nat.zero_add,List.getD_cons_zero];grind [List.getElem?_append_left,V3.cells]
 | v::r,i+1,j,h,hj=>by
  have ih:=Jtm r i j (by simpa using h) hj;grind [atC,List.getD_cons_succ,List.getElem?_append_right,V3.cells]
def AtsV(w:World)(v:Value)(ats:List Atm): Prop:=∃(ts:List TA) (A:Option Addr) (c:Nat),ats=ts.map (·.2)/\v=.slice A ts.length c/\ts.length<=c/\ts.length<=1100000/\Rd w 3 A ts.length (atC ts)/\∀ p∈ts,AtV w p.1 p.2
theorem AtsV.ext{w w':World}{v:Value}{ats:List Atm}(h:AtsV w v ats)(hx:Ext w w'): AtsV w' v ats:=by
 obtain⟨u,A,c,U,O,J,G,F,D⟩:=h;exact⟨u,A,c,U,O,J,G,F.ext hx,λp y=>(D p y).ext hx⟩
theorem Jwn{n:Nat}{ts:List TA}(hR:Rd w 3 A n (atC ts))(hn:ts.length=n)(hi:i<n)(hu:(ts.getD i ta0).1.cells[j]?=some u): w.cell? ((adr A (i*3)).add j)=some u:=by
 have y:j<3:=by grind [List.getElem?_eq_some_iff.1,V3.cells]
 rw[Gv];exact hR.cell (by grind [Jtm])
theorem Jvf{ts:List TA}{n:Nat}(hn:ts.length=n)(hi:i<n): ts.getD i ta0∈ts:=getD_mem' ta0 ts (hn.symm ▸ hi)
def Un(zs:List Int): Prop:=∀ j,0<j->j<zs.length->zs.getD (j-1) 0<zs.getD j 0
def Yf(n:Int)(a:Atm): Prop:=Un a.vars/\(∀ v∈a.vars,0<=v/\v<n)/\a.vars.length=a.ar
def Jxh(n:Int)(ats:List Atm): Prop:=0<=n/\n<=32/\ats.length<=32/\(∀ a∈ats,Yf n a)/\∀ v:Nat,(v:Int)<n->∃ a∈ats,(v:Int)∈a.vars
theorem Qfx(hR:RdB w A bs)(hm:bs.length<=1100000): Ret Tryz.prog 111 [.slice A bs.length c,.bool t] w λu w'=>w'=w/\∃ z,u=.int .i64 z/\(0<=z↔t∈bs):=by
 refine Jz Tryz.func111 Tryz.ntmps111 rfl kr rfl ?_;refine ρ ?_;refine Jl (fun (k:Nat)=>[(0,.slice A bs.length c),(1,.bool t),(7,.int .i64 (bs.length:Int)),(8,.int .i64 (k:Int))]) (λk w'=>w'=w/\k<=bs.length/\t ∉ bs.take k) (λk=>bs.length-k) 0 sB ⟨rfl,Nat.zero_le _,by simp⟩ ?_;rintro k w' ⟨rfl,y,D⟩;refine ρ ?_;refine ci (λh=>?_) (λh=>?_)
 .have lk:k<bs.length:=by have:=oT h;omega
  refine ρ ?_;refine ix k hR lk ?_;refine ρ ?_;refine ld (RdB.cell hR lk) ?_;refine eqb ?_;refine ρ ?_;refine ci (λh=>?_) (λh=>?_)
  .refine ρ ?_;refine Jq ⟨rfl,(k:Int),rfl,⟨λ_=>?_,λ_=>om⟩⟩;grind
  refine ρ ?_;refine Jg (k+1) sO ⟨rfl,om,?_⟩ om;grind [Xu,lk,List.mem_singleton]
 refine ρ ?_;refine Jq ⟨rfl,-1,rfl,⟨λe=>om,λe=>?_⟩⟩;grind
theorem Qlg(hR:RdB w A bs)(hm:bs.length<=1100000): Ret Tryz.prog 65 [.slice A bs.length c,.bool t] w λu w'=>w'=w/\∃ b:Bool,u=.bool b/\(b=true↔t∈bs):=by
 refine Jz Tryz.func65 Tryz.ntmps65 rfl kr rfl ?_;refine ρ ?_;refine cl (Qfx hR hm) ?_;rintro u w' ⟨rfl,z,rfl,y⟩;refine ρ ?_;exact Jq ⟨rfl,decide (0<=z),rfl,by grind⟩
theorem Blk.at2{t:TypeId}{cs:List Value}(h:Blk w g t cs)(hv:cs[i+j]?=some v): w.cell? ((⟨g,i,none⟩:Addr).add j)=some v:=by rw[Za,h.cell];exact hv
theorem Zu: Qu Tryz.prog 37=some (.agg #[.slice none 0 0,.int .i64 0,.slice none 0 0]):=kr
abbrev Jjn(w:World)(base:Nat)(v:Value)(bs:List Bool): Prop:=w.ownsRow base 4 1 v bs.length (bs.map Value.bool)
theorem Qmq(h:i<bs.length): (bs.map Value.bool)[i]?=some (.bool (bs.getD i false)):=by grind
open Classical in
noncomputable def atE (n:Int) (a:Atm):Int:=if¬ Un a.vars then 16 else if¬ (∀ v∈a.vars,0<=v/\v<n) then 3 else if a.vars.length≠a.ar then 6 else 0
theorem atE_ok{a:Atm}: atE n a=0↔Yf n a:=by unfold atE Yf;grind
noncomputable def frE(n:Int): List Atm->Int
 | []=>0
 | a::r=>if atE n a=0 then frE n r else atE n a
open Classical in
noncomputable def lfE (n:Int) (ats:List Atm):Int:=if¬ (0<=n/\n<=32) then 3 else if 32<ats.length then 12 else if frE n ats=0 then(if ∀ v:Nat,(v:Int)<n->∃ a∈ats,(v:Int)∈a.vars then 0 else 22) else frE n ats
theorem Jjf{n:Int}: ∀ {l:List Atm},(∀ a∈l,Yf n a)->frE n l=0
 | [],_=>rfl
 | a::r,h=>by rw[frE,if_pos (atE_ok.2 (h a mC))];exact Jjf λb hb=>h b (List.mem_cons_of_mem _ hb)
theorem Jpd{n:Int}: ∀ {l:List Atm},frE n l=0->∀ a∈l,Yf n a
 | [],_,a,ha=>by cases ha
 | b::r,h,a,ha=>by
  rw[frE]at h;by_cases e:atE n b=0
  .rw[if_pos e]at h;rcases List.mem_cons.1 ha with rfl|ha
   .exact atE_ok.1 e
   exact Jpd h a ha
  rw[if_neg e]at h;exact absurd h e
theorem Jkr{n:Int}: ∀ {l:List Atm} {i:Nat},(∀ j,j<i->Yf n (l.getD j a0))->i<l.length->atE n (l.getD i a0)≠0->frE n l=atE n (l.getD i a0)
 | [],i,_,h,_=>by simp at h
 | a::r,0,_,_,h=>by rw[frE,if_neg (by simpa using h)];simp
 | a::r,i+1,h,hi,he=>by
  rw[frE,if_pos (atE_ok.2 (by simpa using h 0 om)),List.getD_cons_succ];exact Jkr (λj hj=>by have:=h (j+1) om;rwa [List.getD_cons_succ]at this) (by simpa using hi) (by rwa [List.getD_cons_succ]at he)
theorem Jxz(ts:List TA)(j:Nat): (ts.map (·.2)).getD j a0=(ts.getD j ta0).2:=by
 simp only[List.getD,List.getElem?_map];cases ts[j]?<;>rfl
theorem Qds{ats:List Atm}: lfE n ats=0↔Jxh n ats:=by
 unfold lfE Jxh;refine⟨λh=>?_,λ⟨F,D,G,y,u⟩=>?_⟩
 .by_cases c1:0<=n/\n<=32
  .rw[if_neg (λh=>h c1)]at h;by_cases c2:32<ats.length
   .rw[if_pos c2]at h;cases h
   rw[if_neg c2]at h;by_cases c3:frE n ats=0
   .rw[if_pos c3]at h;by_cases c4:∀ v:Nat,(v:Int)<n->∃ a∈ats,(v:Int)∈a.vars
    .exact⟨c1.1,c1.2,om,Jpd c3,c4⟩
    rw[if_neg c4]at h;cases h
   rw[if_neg c3]at h;exact absurd h c3
  rw[if_pos c1]at h;cases h
 rw[if_neg (λh=>h ⟨F,D⟩),if_neg om,if_pos (Jjf y),if_pos u]
theorem Qdt{ats:List Atm}(h:AtsV w v ats): Ret Tryz.prog 34 [.int .i64 n,v] w λu w'=>Ext w w'/\u=.int .i64 (lfE n ats):=by
 obtain⟨ts,A,c,rfl,rfl,bo,bn,hR,bs⟩:=h;generalize hm:ts.length=m at *
 refine Jz Tryz.func34 Tryz.ntmps34 rfl kr rfl ?_;refine ρ ?_;refine Kp (fun (t:Bool)=>[(0,.int .i64 n),(1,.slice A m c),(16,.bool t)]) (λt w'=>w'=w/\(t=true↔¬ (0<=n/\n<=32))) ?_ ?_
 .refine ki 13 (λh=>?_) (λh=>?_)
  .refine ρ ?_;exact Js true sB ⟨rfl,by grind⟩
  refine ρ ?_;refine Js _ sB ⟨rfl,?_⟩;grind
 rintro t w' ⟨rfl,ht⟩;refine ci (λh=>?_) (λh=>?_)
 .refine ρ ?_;exact Jq ⟨Ext.refl _,congrArg _ (by rw[lfE,if_pos (ht.1 h)])⟩
 have hn:0<=n/\n<=32:=by grind
 obtain⟨aj,b2⟩:=hn;obtain⟨N,rfl⟩:=Int.eq_ofNat_of_zero_le aj;clear h ht;refine ρ ?_;refine ci (λh=>?_) (λh=>?_)
 .refine ρ ?_;have bh:32<(ts.map (·.2)).length:=by rw[List.length_map];have:=oT h;omega
  exact Jq ⟨Ext.refl _,congrArg _ (by rw[lfE,if_neg (λh=>h ⟨aj,b2⟩),if_pos bh])⟩
 have bj:m<=32:=by grind
 clear h;refine ρ ?_;refine mkn EB N om (by unfold maxLen;omega) ?_;intro w1 O ba ay hO;have ax:Jjn w1 w'.heap.size (.slice O N N) (List.replicate N false):=by
  rw[Jjn,List.length_replicate,List.map_replicate];have e:(madeCells (Value.bool false).cells (N*1)).toList=List.replicate N (Value.bool false):=by rw[Nat.mul_one];exact Yr _ _
  rw[e]at ay;exact ay
 refine ρ ?_;refine Qd (fun (i:Nat) (F:List Bool)=>[(0,.int .i64 (N:Int)),(5,.slice O N N),(22,.slice A m c),(23,.int .i64 (m:Int)),(24,.int .i64 (i:Int))])
  (λi F w2=>i<=m/\Ext w' w2/\F.length=N/\Jjn w2 w'.heap.size (.slice O N N) F/\(∀ j,j<i->Yf N (ts.getD j ta0).2)/\∀ v:Nat,v<N->(F.getD v false=true↔∃ j,j<i/\(v:Int)∈(ts.getD j ta0).2.vars)) (λi _=>m-i) 0 (List.replicate N false) sB
  ⟨Nat.zero_le _,ba,by simp,ax,λj hj=>om,λv hv=>⟨λe=>by simp[List.getD,hv]at e,λ⟨j,hj,_⟩=>om⟩⟩ ?_
 rintro i F w2 ⟨hi,a9,J,ai,au,a1⟩;refine ρ ?_;refine ci (λh=>?_) (λh=>?_)
 .have li:i<m:=by have:=oT h;omega
  have b5:=hR.ext a9;obtain⟨t1,t2,t3,a,hp⟩:∃ t1 t2 t3 a,ts.getD i ta0=((t1,t2,t3),a):=⟨_,_,_,_,rfl⟩;have an:AtV w' (t1,t2,t3) a:=by grind
  have bi:a∈ts.map (·.2):=by grind
  clear h;obtain⟨⟨D,d,e1,hd,br,b3⟩,e2,ah⟩:=id an;simp only at e1 e2;subst e1;subst e2;obtain⟨ps,G,gc,_,aq,_⟩:=id ah;simp only at aq;subst aq;refine ρ ?_;refine ixq 3 i b5 li ?_;refine ρ ?_;refine lds (cs:=[.slice D a.vars.length d,.int .i64 (a.ar:Int),.slice G ps.length gc]) (λj u hu=>Jwn b5 hm li (by rw[hp];exact hu)) ?_;refine ρ ?_;refine alc Zu ?_;intro w3 b b9 hb hB;refine ρ ?_;refine stb hB ?_ an.one;intro w4 am bq b8;have ac:Ext w2 w4:=b8 w2 b9 hb;have a3:=a9.trans ac;have aw:=Jb ai ac;have ak:∀ z:Int,z≠0->atE N a=z->Value.int .i64 z=.int .i64 (lfE N (ts.map (·.2))):=λz hz e=>by
   have h1:frE N (ts.map (·.2))=z:=by
    have:=Jkr (n:=(N:Int)) (l:=ts.map (·.2)) (i:=i) (λj hj=>by rw[Jxz];exact au j hj) (by rw[List.length_map];omega) (by rw[Jxz,hp,e];exact hz)
    rw[this,Jxz,hp,e]
   rw[lfE,if_neg (λh=>h ⟨aj,b2⟩),if_neg (by rw[List.length_map];omega),if_neg (by rw[h1];exact hz),h1]
  refine ρ ?_;refine Jl (fun (k:Nat)=>[(0,.int .i64 (N:Int)),(5,.slice O N N),(22,.slice A m c),(23,.int .i64 (m:Int)),(24,.int .i64 (i:Int)),(7,.pointer (some ⟨b,0,none⟩)),(8,.int .i64 (k:Int))])
   (λk w5=>Ext w4 w5/\1<=k/\(k<=a.vars.length∨k=1)/\∀ j,0<j->j<k->a.vars.getD (j-1) 0<a.vars.getD j 0) (λk=>a.vars.length-k) 1 sB ⟨Ext.refl _,Nat.le_refl _,.inr rfl,λj h1 h2=>om⟩ ?_
  rintro k w5 ⟨a8,bd,bc,ae⟩;have aa:=am.ext a8;refine ρ ?_;refine ld (aa.at (i:=0) rfl) ?_;refine ρ ?_;refine ci (λh=>?_) (λh=>?_)
  .have lk:k<a.vars.length:=by have:=oT h;omega
   have ao:k-1<a.vars.length:=om
   clear h;refine ρ ?_;refine dr [(0,0),(0,1),(0,2),(0,3),(0,4),(0,5),(0,6),(0,7),(0,8),(0,9),(0,10),(0,11)] kr ?_;have Z:=a8.drew;have a2:=am.ext Z;have y:=b3.ext (a3.trans Z);refine ρd ?_;refine dld (a2.at (i:=0) rfl) ?_;refine ρd ?_;refine dix (k-1) y ao ?_;refine ρd ?_;refine dld (y.cell (Vd ao)) ?_;refine ρd ?_;refine dld (a2.at (i:=0) rfl) ?_;refine ρd ?_;refine dix k y lk ?_;refine ρd ?_;refine dld (y.cell (Vd lk)) ?_;refine ρd ?_;refine ρ ?_;refine ci (λh=>?_) (λh=>?_)
   .refine ρ ?_;refine Jq ⟨a3.trans Z,ak 16 (by decide) ?_⟩;rw[atE,if_pos];intro h1;have:=h1 k om lk;grind
   refine ρ ?_;refine Jg (k+1) sO ⟨Z,om,om,λj h1 h2=>?_⟩ om;grind
  have U:Un a.vars:=λj h1 h2=>ae j h1 (by grind);clear h ae bd bc;have ap:=a3.trans a8;have av:=Jb aw a8;refine ρ ?_;refine ld (aa.at (i:=0) rfl) ?_;refine ρ ?_;refine Qd (fun (q:Nat) (F:List Bool)=>[(0,.int .i64 (N:Int)),(5,.slice O N N),(22,.slice A m c),(23,.int .i64 (m:Int)),(24,.int .i64 (i:Int)),(7,.pointer (some ⟨b,0,none⟩)),(48,.slice D a.vars.length d),(49,.int .i64 (a.vars.length:Int)),(50,.int .i64 (q:Int))])
   (λq F w6=>q<=a.vars.length/\Ext w' w6/\F.length=N/\Jjn w6 w'.heap.size (.slice O N N) F/\Blk w6 b 37 [.slice D a.vars.length d,.int .i64 (a.ar:Int),.slice G ps.length gc]/\(∀ j,j<q->0<=a.vars.getD j 0/\a.vars.getD j 0<N)/\∀ v:Nat,v<N->(F.getD v false=true↔(∃ j,j<i/\(v:Int)∈(ts.getD j ta0).2.vars)∨∃ j,j<q/\a.vars.getD j 0=(v:Int))) (λq _=>a.vars.length-q) 0 F sB
   ⟨Nat.zero_le _,ap,J,av,aa,λj hj=>om,λv hv=>⟨λe=>.inl ((a1 v hv).1 e),λe=>(a1 v hv).2 (e.elim id λ⟨j,hj,_⟩=>om)⟩⟩ ?_
  clear ai aw av aa am a1 J;rintro q F w6 ⟨hq,a7,J,a5,a2,bp,a1⟩;refine ρ ?_;refine ci (λh=>?_) (λh=>?_)
  .have lq:q<a.vars.length:=by have:=oT h;omega
   have y:=b3.ext a7;have bb:a.vars.getD q 0∈a.vars:=getD_mem' 0 _ lq;clear h;refine ρ ?_;refine ix q y lq ?_;refine ρ ?_;refine ld (y.cell (Vd lq)) ?_;refine ρ ?_;generalize hz:a.vars.getD q 0=z at *
   refine Kp (fun (t:Bool)=>[(0,.int .i64 (N:Int)),(5,.slice O N N),(22,.slice A m c),(23,.int .i64 (m:Int)),(24,.int .i64 (i:Int)),(7,.pointer (some ⟨b,0,none⟩)),(48,.slice D a.vars.length d),(49,.int .i64 (a.vars.length:Int)),(50,.int .i64 (q:Int)),(10,.int .i64 z),(60,.bool t)]) (λt w7=>w7=w6/\(t=true↔¬ (0<=z/\z<N))) ?_ ?_
   .refine ki 56 (λh=>?_) (λh=>?_)
    .refine ρ ?_;exact Js true sB ⟨rfl,by grind⟩
    refine ρ ?_;refine Js _ sB ⟨rfl,?_⟩;grind
   rintro t w7 ⟨rfl,ht⟩;refine ci (λh=>?_) (λh=>?_)
   .refine ρ ?_;exact Jq ⟨a7,ak 3 (by decide) (by rw[atE,if_neg (λh=>h U),if_pos (λh1=>ht.1 h (h1 z bb))])⟩
   have b7:0<=z/\z<N:=by grind
   obtain⟨x,rfl⟩:=Int.eq_ofNat_of_zero_le b7.1;have lx:x<N:=om
   rw[Jjn,J]at a5;obtain⟨s1,s2,s3,s4,s5⟩:=Zl a5 (q:=x) om (.bool true);refine ρ ?_;refine ix x (Rd.own a5) lx ?_;refine ρ ?_;refine sto (s1.trans (Qmq om)) s2 ?_;refine ρ ?_;refine Qv (q+1) (F.set x true) sO ⟨om,Jr a7 s5 (λk hk=>by grind [Jy]),by simpa using J,?_,a2.grown s5 (a2.ne_own a5 rfl),λj hj=>?_,λv hv=>?_⟩ om
   .rw[Jjn,List.length_set,J,List.map_set];exact s3
   repeat grind
  have eq:q=a.vars.length:=by have:=oF h;omega
  clear h;have ad:∀ v∈a.vars,0<=v/\v<N:=λv hv=>by grind [List.getElem_of_mem,Ql]
  refine ρ ?_;refine dr [(0,0),(0,1),(0,2),(0,3),(0,4),(1,5),(0,6)] kr ?_;have a4:=a7.drew;have b6:=a2.ext (Ext.refl w6).drew;have bg:=an.ext a4;refine ρd ?_;refine dld (b6.at (i:=0) rfl) ?_;refine ρd ?_;refine Qj (cs:=[.int .i64 (a.ar:Int),.slice G ps.length gc]) (λj u hu=>Blk.at2 b6 (i:=0+1) (by grind)) ?_;refine ρd ?_;refine dcl (Jqf bg.rel) ?_;rintro u w8 ⟨rfl,a6⟩;refine⟨a6,?_⟩;refine ρd ?_;refine ρ ?_;refine ci (λh=>?_) (λh=>?_)
  .refine ρ ?_;refine Jq ⟨a4.trans a6,ak 6 (by decide) ?_⟩;rw[atE,if_neg (λh=>h U),if_neg (λh=>h ad),if_pos];have:=Jzr h;omega
  refine ρ ?_;have be:a.vars.length=a.ar:=by have:=Jzs h;omega
  refine Qv (i+1) F sO ⟨om,a4.trans a6,J,Jb (Jb a5 (Ext.refl w6).drew) a6,λj hj=>?_,λv hv=>?_⟩ om
  .by_cases ej:j=i
   .subst ej;rw[hp];exact⟨U,ad,be⟩
   exact au j om
  repeat grind [getD_mem',List.getElem_of_mem,Ql]
 have ei:i=m:=by have:=oF h;omega
 clear h;subst J;have bf:RdB w2 O F:=Rd.own ai;have af:∀ a∈ts.map (·.2),Yf F.length a:=λa ha=>by grind [List.mem_map.1,List.getElem_of_mem,Ql,ta0]
 refine ρ ?_;refine cl (Qlg bf om) ?_;rintro u w3 ⟨rfl,t,rfl,ht⟩;refine ρ ?_;refine ci (λh=>?_) (λh=>?_)
 .refine ρ ?_;refine Jq ⟨a9,congrArg _ ?_⟩;rw[lfE,if_neg (λh=>h ⟨om,om⟩),if_neg (by rw[List.length_map];omega),if_pos (Jjf af),if_neg];intro b4;obtain⟨x,hx,ex⟩:=List.getElem_of_mem (ht.1 h);obtain⟨a,ha,bl⟩:=b4 x om;grind [List.mem_map.1,List.getElem_of_mem,Ql,ta0]
 refine ρ ?_;refine Jq ⟨a9,congrArg _ ?_⟩;rw[lfE,if_neg (λh=>h ⟨om,om⟩),if_neg (by rw[List.length_map];omega),if_pos (Jjf af),if_pos];intro v hv;have bm:v<F.length:=om
 grind
theorem Jnh{ats:List Atm}(h:AtsV w v ats): Ret Tryz.prog 34 [.int .i64 n,v] w λu w'=>Ext w w'/\∃ e,u=.int .i64 e/\(e=0↔Jxh n ats):=(Qdt h).mono λu w' h=>⟨h.1,_,h.2,Qds⟩
open Go.RowKit Pl Go.Wk
structure Inp where
 n: Int
 free:Int
 desc:List Bool
 perm:List Int
 ats:List Atm
def InC(w:World)(i:Inp)(cs:List Value): Prop:=∃ vd vp va,cs=[.int .i64 i.n,.int .i64 i.free,vd,vp,va]/\BoolsV w vd i.desc/\IntsV w vp i.perm/\AtsV w va i.ats
theorem InC.ext{w w':World}{i:Inp}{cs:List Value}(h:InC w i cs)(hx:Ext w w'): InC w' i cs:=by
 obtain⟨y,u,D,e,J,G,F⟩:=h;exact⟨y,u,D,e,J.ext hx,G.ext hx,F.ext hx⟩
def InV(w:World)(v:Value)(i:Inp): Prop:=∃ cs,v=.agg cs.toArray/\InC w i cs
theorem InV.ext{w w':World}{v:Value}{i:Inp}(h:InV w v i)(hx:Ext w w'): InV w' v i:=by
 obtain⟨cs,e,h⟩:=h;exact⟨cs,e,h.ext hx⟩
end Go.Proofs.YtebiphhfkdbpfaaGreat
namespace Go.Proofs.YtebiphhfkdbpfaaGreat
open Pl
variable {f:List Nat}{rs:List Row}{d i j l:Nat}{q x:Row}
def pfx(rs:List Row)(l:Nat): List Row:=ddF (rs.map (List.take l))
theorem Jlg(rs:List Row)(x:Row)(l:Nat): pfx (rs++[x]) l=ddS (pfx rs l) (x.take l):=by
 unfold pfx;rw[List.map_append,List.map_cons,List.map_nil,Jcg]
theorem Jrt: ∀(a b:Row) (l:Nat),Jk a b []<=0->Jk (a.take l) (b.take l) []<=0
 | _,_,0,_=>by simp[Jk]
 | [],[],_+1,_=>by simp[Jk]
 | [],_::_,_+1,_=>by simp[Jk]
 | _::_,[],_+1,h=>by simp[Jk]at h
 | x::a,y::b,l+1,h=>by
  simp only[List.take_succ_cons,Jk,List.drop_nil]at h ⊢;by_cases e:cmpV x y=0
  .rw[if_pos e]at h ⊢;exact Jrt a b l h
  repeat grind
theorem Qzl(h:Srt [] rs)(l:Nat): Srt [] (rs.map (List.take l)):=by grind [Srt,Jrt]
theorem Ys(h:Lt [] rs): Srt [] rs:=h.imp λu=>by omega
theorem Jqh(h:Srt [] rs)(l:Nat): IsSet [] (rs.map (List.take l)) (pfx rs l):=Jrj (Qzl h l)
theorem Jqj(h:Srt [] rs): q∈pfx rs l↔∃ r∈rs,r.take l=q:=by
 rw[(Jqh h l).2,List.mem_map]
theorem Qyf(h:Lt [] rs)(hl:∀ r∈rs,r.length=d): pfx rs d=rs:=by
 have e:rs.map (List.take d)=rs:=by
  conv=>rhs;rw[<-List.map_id rs]
  exact List.map_congr_left λr y=>by grind
 have u:=Jqh (Ys h) d;rw[e]at u;exact Uz u.1 h u.2
theorem Jlh: (pfx (rs++[x]) l).getLast?=some (x.take l):=by grind [Jlg,Jrg]
def shr: Row->Row->Nat
 | a::x,b::y=>if a=b then shr x y+1 else 0
 | _,_=>0
theorem Jvl(y:Row): shr [] y=0:=by cases y<;>rfl
theorem Jgg: ∀ x y:Row,shr x y<=x.length/\shr x y<=y.length
 | [],y=>by rw[Jvl];simp
 | _::_,[]=>by simp[shr]
 | a::x,b::y=>by
  have:=Jgg x y;simp only[shr,List.length_cons];split<;>omega
theorem Jgf: ∀(x y:Row) (l:Nat),x.length=y.length->(x.take l=y.take l↔l<=shr x y∨x=y)
 | [],[],l,_=>by simp
 | [],_::_,_,h=>by simp at h
 | _::_,[],_,h=>by simp at h
 | a::x,b::y,0,_=>by simp
 | a::x,b::y,l+1,h=>by
  have ih:=Jgf x y l (by simpa using h);grind [List.cons.injEq,shr]
def lvl(rs:List Row)(l:Nat): Row:=(pfx rs (l+1)).map λq=>q.getD l V0
theorem Ia(rs:List Row)(l:Nat): (lvl rs l).length=(pfx rs (l+1)).length:=by simp[lvl]
theorem Qdc(h:i<(pfx rs (l+1)).length): (lvl rs l).getD i V0=((pfx rs (l+1)).getD i []).getD l V0:=by grind [Ql,V0,Ia,lvl]
def Fst(rs:List Row)(l:Nat)(f:List Nat): Prop:=f.length=(pfx rs (l+1)).length/\(∀ j,j<f.length->f.getD j 0<=(pfx rs (l+2)).length) /\
 ∀ j i,j<f.length->i<(pfx rs (l+2)).length->(((pfx rs (l+2)).getD i []).take (l+1)=(pfx rs (l+1)).getD j []↔f.getD j 0<=i/\(j+1<f.length->i<f.getD (j+1) 0))
def stp(rs:List Row)(x:Row): Nat:=match rs.getLast? with
 | some y=>shr y x
 | none=>0
theorem Ge(h:Lt [] (rs++[x]))(hl:∀ r∈rs++[x],r.length=d)(h0:0<l): pfx (rs++[x]) l=if l<=stp rs x then pfx rs l else pfx rs l++[x.take l]:=by
 rw[Jlg];rcases List.eq_nil_or_concat rs with rfl|⟨r,y,rfl⟩
 .rw[if_neg (by simp[stp];omega)];rfl
 rw[List.concat_eq_append]at *;have D:(r++[y]).getLast?=some y:=by simp
 have u:Jk y x []<0:=(List.pairwise_append.1 h).2.2 y (by simp) x (by simp);grind [Vo,stp,shr,ddS,Jlh,Jgf]
theorem Qyc(h:Lt [] (rs++[x]))(hl:∀ r∈rs++[x],r.length=d)(h0:0<l)(hs:stp rs x<l): x.take l ∉ pfx rs l:=by
 have e:=Ge h hl h0;rw[if_neg om]at e;have u:=(Jqh (Ys h) l).1;rw[e]at u;intro y;have:=(List.pairwise_append.1 u).2.2 _ y (x.take l) (by simp);grind [Vo]
theorem Qdh{l:List Row}(h:Lt [] l)(hi:i<l.length)(hj:j<l.length)(e:l.getD i []=l.getD j []): i=j:=by
 rcases Nat.lt_trichotomy i j with h'|h'|h'
 .have:=h.at h' hj;rw[e,Vo]at this;omega
 .exact h'
 have:=h.at h' hi;rw[e,Vo]at this;omega
theorem Jpc{α:Type}(z:α)(l:List α)(x:α)(k:Nat): (l++[x]).getD k z=if k<l.length then l.getD k z else if k=l.length then x else z:=by grind
theorem take_take'(q:Row)(l:Nat): (q.take (l+2)).take (l+1)=q.take (l+1):=by grind
theorem Qyb(h:Srt [] rs)(hi:i<(pfx rs (l+2)).length): ((pfx rs (l+2)).getD i []).take (l+1)∈pfx rs (l+1):=by grind [Jqj,getD_mem',take_take']
theorem Fst.keep(hF:Fst rs l f)(h:Lt [] (rs++[x]))(hl:∀ r∈rs++[x],r.length=d)(hs:l+1<=stp rs x): Fst (rs++[x]) l f:=by
 obtain⟨J,Z,U⟩:=hF;have O:pfx (rs++[x]) (l+1)=pfx rs (l+1):=by rw[Ge h hl om,if_pos hs]
 have u:Lt [] rs:=(List.pairwise_append.1 h).1;have y:0<(pfx rs (l+1)).length/\(pfx rs (l+1)).getD ((pfx rs (l+1)).length-1) []=x.take (l+1):=by grind [Jlh,List.getElem?_eq_some_iff.1,Ql]
 have F:Lt [] (pfx rs (l+1)):=(Jqh (Ys u) _).1;by_cases hs2:l+2<=stp rs x
 .have D:pfx (rs++[x]) (l+2)=pfx rs (l+2):=by rw[Ge h hl om,if_pos hs2]
  grind [Fst]
 have D:pfx (rs++[x]) (l+2)=pfx rs (l+2)++[x.take (l+2)]:=by rw[Ge h hl om,if_neg hs2]
 unfold Fst;rw[O,D];refine⟨J,λj G=>?_,λj i G hi=>?_⟩;repeat grind [List.length_append,List.length_singleton,Jpc,pfx,take_take',Qdh]
theorem Fst.more(hF:Fst rs l f)(h:Lt [] (rs++[x]))(hl:∀ r∈rs++[x],r.length=d)(hs:stp rs x<=l): Fst (rs++[x]) l (f++[(pfx rs (l+2)).length]):=by
 obtain⟨D,O,J⟩:=hF;have u:Lt [] rs:=(List.pairwise_append.1 h).1;have G:pfx (rs++[x]) (l+1)=pfx rs (l+1)++[x.take (l+1)]:=by rw[Ge h hl om,if_neg om]
 have F:pfx (rs++[x]) (l+2)=pfx rs (l+2)++[x.take (l+2)]:=by rw[Ge h hl om,if_neg om]
 have hn:=Qyc h hl (l:=l+1) om om;unfold Fst;rw[G,F];refine⟨by simp[D],λj y=>?_,λj i y hi=>?_⟩
 .grind
 repeat grind [List.length_append,List.length_singleton,Jpc,pfx,take_take',getD_mem',Qyb,Ys]
def Chl(rs:List Row)(l:Nat)(f:List Nat): Prop:=f.length=(pfx rs (l+1)).length+1/\(∀ j,j<f.length->f.getD j 0<=(pfx rs (l+2)).length) /\
 ∀ j i,j+1<f.length->i<(pfx rs (l+2)).length->(((pfx rs (l+2)).getD i []).take (l+1)=(pfx rs (l+1)).getD j []↔f.getD j 0<=i/\i<f.getD (j+1) 0)
theorem Fst.close(hF:Fst rs l f): Chl rs l (f++[(pfx rs (l+2)).length]):=by
 obtain⟨y,F,D⟩:=hF;refine⟨by simp[y],λj u=>?_,λj i u hi=>?_⟩;repeat grind
theorem Fst.nil(l:Nat): Fst [] l []:=⟨rfl,λj u=>by simp at u,λj i u=>by simp at u⟩
theorem Jmn(h:Lt [] (rs++[x]))(hl:∀ r∈rs++[x],r.length=d)(hd:l<d): lvl (rs++[x]) l=if l+1<=stp rs x then lvl rs l else lvl rs l++[x.getD l V0]:=by
 unfold lvl;rw[Ge h hl om];grind
end Go.Proofs.YtebiphhfkdbpfaaGreat
namespace Go.Wk
open Go.RowKit
variable {c' cs news xs:List Value}{d g i k l m m' n t ty:Nat}{α:Type}{v v' z:Value}
def upd(f:Nat->α)(i:Nat)(x:α): Nat->α:=λk=>if k=i then x else f k
theorem Qw(f:Nat->α)(i:Nat)(x:α): upd f i x i=x:=by simp[upd]
theorem Jm(f:Nat->α)(x:α)(h:k≠i): upd f i x k=f k:=by simp[upd,h]
structure Fam(w:World)(base e sz n:Nat)(v:Nat->Value)(m:Nat->Nat)(c:Nat->List Value): Prop where
 own:∀ i,i<n->w.ownsRow base e sz (v i) (m i) (c i)
 dis:∀ i j g,i<n->j<n->i≠j->(v i).ownBlock=some g->(v j).ownBlock≠some g
section
variable {w w':World} {base e sz n:Nat} {v:Nat->Value} {m:Nat->Nat} {c:Nat->List Value}
theorem Fam.ext(h:Fam w base e sz n v m c)(hx:Ext w w'): Fam w' base e sz n v m c:=⟨λi hi=>Jb (h.own i hi) hx,h.dis⟩
theorem Fam.gr{N:Nat->Prop}(h:Fam w base e sz n v m c)(hg:GrN N w w')(hN:∀ i g,i<n->(v i).ownBlock=some g->¬ N g): Fam w' base e sz n v m c:=⟨λi hi=>Jo (h.own i hi) hg (hN i · hi),h.dis⟩
theorem Fam.other{base' e' sz':Nat}(h:Fam w base e sz n v m c)(h':w.ownsRow base' e' sz' v' m' xs)(hg:w.grownBy w' v'.ownBlock)(hne:Nat.beq e e'=false): Fam w' base e sz n v m c :=
 ⟨λi hi=>Zq (h.own i hi) h' hg hne,h.dis⟩
theorem Fam.box(h:Fam w base e sz n v m c)(hB:Blk w g t cs)(hg:w.grownBy w' (some g))(hne:Nat.beq e t=false): Fam w' base e sz n v m c :=
 ⟨λi hi=>(h.own i hi).kept hg (.inr (λu=>hB.ne_own (h.own i hi) hne u.symm)),h.dis⟩
theorem Fam.lt(h:Fam w base e sz n v m c)(hi:i<n)(hg:(v i).ownBlock=some g): base<=g/\g<w.heap.size:=by
 obtain⟨_,_,_,_,u⟩:=Jy (h.own i hi);exact u g hg
theorem Fam.upd(h:Fam w base e sz n v m c)(hi:i<n)(ho:w'.ownsRow base e sz v' m' c')(hg:w.grownBy w' (v i).ownBlock)(hb:∀ g,v'.ownBlock=some g->(v i).ownBlock=some g∨w.heap.size<=g):
  Fam w' base e sz n (upd v i v') (upd m i m') (upd c i c'):=by
 refine⟨λk y=>?_,λk j g y G u F D=>?_⟩
 .by_cases e:k=i
  .grind [Qw]
  rw[Jm _ _ e,Jm _ _ e,Jm _ _ e];refine(h.own k y).kept hg ?_;cases hb2:(v k).ownBlock with
  | none=>exact .inl rfl
  | some g=>exact .inr (λJ=>h.dis k i g y hi e hb2 J.symm)
 by_cases ek:k=i<;>by_cases ej:j=i
 .omega
 .subst ek;rw[Qw]at F;rw[Jm _ _ ej]at D;rcases hb g F with h'|h'
  .exact h.dis k j g y G u h' D
  have:=(h.lt G D).2;omega
 .subst ej;rw[Qw]at D;rw[Jm _ _ ek]at F;rcases hb g D with h'|h'
  .exact h.dis k j g y G u F h'
  have:=(h.lt y F).2;omega
 rw[Jm _ _ ek]at F;rw[Jm _ _ ej]at D;exact h.dis k j g y G u F D
theorem Fam.grown(h:Fam w base e sz n v m c)(hi:i<n): ∀ g,(v i).ownBlock=some g->base<=g:=λg u=>(h.lt hi u).1
end
def Xb(d:Nat)(f g:Nat->Value): List Value:=(List.range d).flatMap λl=>[f l,g l]
theorem Gx(d:Nat)(f g:Nat->Value): Xb (d+1) f g=Xb d f g++[f d,g d]:=by simp[Xb,List.range_succ,List.flatMap_append]
theorem Zy(d:Nat)(f g:Nat->Value): (Xb d f g).length=d*2:=by
 induction d with
 | zero=>rfl
 | succ d ih=>rw[Gx,List.length_append,ih];simp;omega
theorem Ye(d:Nat)(f g:Nat->Value)(h:l<d): (Xb d f g)[l*2]?=some (f l)/\(Xb d f g)[l*2+1]?=some (g l):=by
 induction d with
 | zero=>omega
 | succ d ih=>
  rw[Gx];by_cases e:l=d
  .subst e;rw[List.getElem?_append_right (by rw[Zy];omega),List.getElem?_append_right (by rw[Zy];omega),Zy];grind
  repeat grind
theorem Jpp{f g f' g':Nat->Value}(h1:∀ l,l<d->f l=f' l)(h2:∀ l,l<d->g l=g' l): Xb d f g=Xb d f' g':=by
 induction d with
 | zero=>rfl
 | succ d ih=>rw[Gx,Gx,ih (λl u=>h1 l om) (λl u=>h2 l om),h1 d om,h2 d om]
theorem Jpn(d:Nat)(f g:Nat->Value)(h:l<d)(u:Value): (Xb d f g).set (l*2) u=Xb d (upd f l u) g:=by
 induction d with
 | zero=>omega
 | succ d ih=>
  rw[Gx,Gx];by_cases e:l=d
  .subst e;rw[List.set_append_right _ _ (by rw[Zy];omega),Zy,Nat.sub_self,List.set_cons_zero,Qw];congr 1
   grind [Jpp,Jm]
  repeat grind [List.set_append_left,Zy,Jm]
theorem Jpm(d:Nat)(f g:Nat->Value)(h:l<d)(u:Value): (Xb d f g).set (l*2+1) u=Xb d f (upd g l u):=by
 induction d with
 | zero=>omega
 | succ d ih=>
  rw[Gx,Gx];by_cases e:l=d
  .subst e;rw[List.set_append_right _ _ (by rw[Zy];omega),Zy,Nat.add_sub_cancel_left,List.set_cons_succ,List.set_cons_zero,Qw];congr 1
   exact Jpp (λk y=>rfl) (λk y=>(Jm _ _ om).symm)
  repeat grind [List.set_append_left,Zy,Jm]
theorem apb{P:Program}{al:AL}{w:World}{Q:Exit->Act->World->Prop}{ops:Array Oper}{rest:List Oper}{pos:String}{aft:Array Edge}{e sz bytes base:Nat}(hE:ElT P t e sz bytes z){x y:Operand}{A':Option Addr}{c':Nat}(ha:w.ownsRow base e sz v m xs)(hr:Rd w sz A' m' news)(h1:∀ u∈news,u.oneCell'=true)(h63:m+m'<=maxLen)(hby:(m+m')*bytes<=140737488355328)(hbase:base<=w.heap.size)(kk:∀ v' w',w'.ownsRow base e sz v' (m+m') (xs++news)->w.grownBy w' v.ownBlock->(∀ g,v'.ownBlock=some g->v.ownBlock=some g∨w.heap.size<=g)->WL P n ops Q rest ((d,v')::al) w')(hx:ev al x=some v:=by rfl)(hy:ev al y=some (.slice A' m' c'):=by rfl)(hd:Nat.blt d n=true:=by rfl):
  WL P n ops Q (⟨some d,.call { callee:=.builtin .append,args:=#[x,y],argTypes:=#[t,t] },ty,pos,aft,none⟩::rest) al w:=by
 obtain⟨v',w',D,Z,U,O,J,G⟩:=Jgz hE base ty (.inl ha) (c':=c') hr h1 h63 hby hbase;refine wop hd (λa F=>?_) (kk v' w' (O ha) (J.elim (·.2) (λh=>Xc h _)) G)
 simp[execOp,resolve,invoke,builtin,F.ev hx,F.ev hy,D]
end Go.Wk
namespace Go.Wk
open Go.RowKit
variable {p:Addr}{b c:Bool}{a z:Int}{kd:IntKind}{l:List (Nat×Oper)}{cs:List Value}{e id j m s t:Nat}{o oi:Oper}{i x y:Operand}{A:Option Addr}{dst:Option Nat}{k:TK}{yt:TypeId}{u v:Value}
section
variable {N:Nat->Prop} {P:Program} {ops:Array Oper} {Q:Exit->Act->World->Prop} {T:Nat->Bool}
def Uj(N:Nat->Prop)(P:Program)(ops:Array Oper)(Q:Exit->Act->World->Prop)(k:Nat)(o:Oper)(K:Act->World->Prop)(a:Act)(w:World): Prop :=
 match k with
 | 0=>∃ v,YieldsIf P ops (GrN N w) o v a/\K (a.put o.dst v) w
 | 1=>if Region.wanted o (yielded ops a.tmps) then o.wp P a w (λa' w'=>GrN N w w'/\K a' w') (QF Q) else K (a.put o.dst undef) w
 | _=>if Region.wanted o (yielded ops a.tmps) then o.wp P a w K (QF Q) else K (a.put o.dst undef) w
def Xf(N:Nat->Prop)(P:Program)(ops:Array Oper)(Q:Exit->Act->World->Prop): List (Nat×Oper)->Act->World->Prop
 | [],a,w=>Q .normal a w
 | p::r,a,w=>Uj N P ops Q p.1 p.2 (Xf N P ops Q r) a w
def Up(N:Nat->Prop)(P:Program)(ops:Array Oper)(Q:Exit->Act->World->Prop)(T:Nat->Bool): Nat->Array Bool->Act->World->Prop
 | 0,listed,a,w=>Region.ready .any ops listed=[]/\Q .normal a w
 | fuel+1,listed,a,w=>
  (Region.ready .any ops listed=[]->Q .normal a w) /\
   ∀ i∈Region.ready .any ops listed,wpOp P ops (QF Q) i (λa' w'=>(T i=false->GrN N w w')/\Up N P ops Q T fuel (listed.setIfInBounds i true) a' w') a w
theorem Jdm: ∀(fuel:Nat) (listed:Array Bool) (a:Act) (w:World),Up N P ops Q T fuel listed a w->wpAny P .any ops Q fuel listed a w
 | 0,_,_,_,h=>h
 | fuel+1,_,_,_,h=>⟨h.1,λi hi=>wpOp_mono (λa' w' h'=>Jdm fuel _ a' w' h'.2) (Jxq (h.2 i hi))⟩
theorem Qjl(S:World->World->Prop)(hS0:∀ w,S w w)(hSt:∀ {a b c},S a b->S b c->S a c){i:Nat}(hi:ops[i]?=some oi)(hsel:∀(j:Nat) (o:Oper) cs b,ops[j]?=some o->o.op≠.select cs b)(hSx:∀ listed j,Closed ops listed->i∈Region.ready .any ops listed->j∈Region.ready .any ops listed->∀ w w',(T j=false->GrN N w w')->S w w'):
  ∀(fuel:Nat) (listed:Array Bool) (a:Act) (w:World),Closed ops listed ->
   (∀ j oj,ops[j]?=some oj->j≠i->listed.getD j true=false->(∀ e∈oj.after,Region.binds .any e=true->e.on≠i)->oi.apart ops oj=true) ->
   i∈Region.ready .any ops listed->YieldsIf P ops (S w) oi v a ->
   Up N P ops Q T fuel (listed.setIfInBounds i true) (a.put oi.dst v) w->Up N P ops Q T (fuel+1) listed a w:=by
 intro fuel;induction fuel with
 | zero=>
  intro listed a w J _ D hy H;refine⟨λh=>(by rw[h]at D;cases D),λj O=>?_⟩;by_cases hji:j=i
  .subst hji;exact hy.wpOp hi (hS0 w) ⟨λ_=>GrN.refl N w,H⟩
  have:=ready_mono O hji;rw[H.1]at this;cases this
 | succ fuel ih=>
  intro listed a w J u D hy H;refine⟨λh=>(by rw[h]at D;cases D),λj O=>?_⟩;by_cases hji:j=i
  .subst hji;exact hy.wpOp hi (hS0 w) ⟨λ_=>GrN.refl N w,H⟩
  obtain⟨F,oj,G,a2⟩:=mem_ready.1 O;have h1:=H.2 j (ready_mono O hji);have a1:∀ e∈oj.after,Region.binds .any e=true->e.on≠i:=λe he hb a6=>by
   have h1:=a2 e he hb;have h0:=(mem_ready.1 D).1;grind
  have h2:=wpOp_putIf G (u j oj G hji F a1) (λcs b=>hsel i oi cs b hi) (λcs b=>hsel j oj cs b G) (λc a w h=>h) hy h1;have y:∀ k U,ops[k]?=some U->k≠i->(listed.setIfInBounds j true).getD k true=false ->
    (∀ e∈U.after,Region.binds .any e=true->e.on≠i)->oi.apart ops U=true:=λk U hk a5 Z a4=>by
   refine u k U hk a5 ?_ a4;by_cases hjk:j=k
   .subst hjk;exact F
   rw[getD_set_ne true hjk]at Z;exact Z
  refine wpOp_mono (λa' w' h3=>⟨h3.2.1,ih (listed.setIfInBounds j true) a' w' (J.step O) y (ready_mono D (Ne.symm hji)) ?_ ?_⟩) h2
  .exact h3.1.imp (λ⟨h4,h5⟩=>⟨h4,λa3 hx=>h5 a3 (hSt (hSx listed j J D O w w' h3.2.1) hx)⟩) id
  rw[Array.setIfInBounds_comm _ _ hji];exact h3.2.2
theorem Jdn(hsel:Region.noSelect ops=true)(F:Nat): ∀(s:List (Nat×Nat)) (listed:Array Bool) (a:Act) (w:World),Closed ops listed->(∀ p∈s,Nat.ble p.1 2=true)->(∀ p∈s,p.2<ops.size)->(∀ p∈s,(p.1 == 2)=T p.2) ->
  (∀ t,T t=true->t<ops.size->∀ p∈s,p.1=0->Vk ops F t p.2=true)->Qt ops s listed=true->Xf N P ops Q (Qy ops.toList s) a w->Up N P ops Q T s.length listed a w
 | [],listed,a,w,_,_,_,_,_,hB,h=>⟨by simpa [Qt] using hB,h⟩
 | (k,i)::r,listed,a,w,hcl,hk,hlt,hKT,hR,hB,h=>by
  have hi:i<ops.size:=hlt _ (mC ..);have ho:ops[i]?=some ops[i]:=Array.getElem?_eq_getElem hi;have hn:nth ops.toList i=some ops[i]:=by rw[Xq];simp[hi]
  have hTi:=hKT _ (mC ..);have hk0:=hk _ (mC ..);simp only at hTi hk0;have hrec:Closed ops (listed.setIfInBounds i true)->Qt ops r (listed.setIfInBounds i true)=true->∀ a w,Xf N P ops Q (Qy ops.toList r) a w->Up N P ops Q T r.length (listed.setIfInBounds i true) a w:=λhc' hB' a w h'=>
   Jdn hsel F r _ a w hc' (λp hp=>hk p (List.mem_cons_of_mem _ hp)) (λp hp=>hlt p (List.mem_cons_of_mem _ hp)) (λp hp=>hKT p (List.mem_cons_of_mem _ hp)) (λt ht htl p hp=>hR t ht htl p (List.mem_cons_of_mem _ hp)) hB' h'
  have one:Qt ops r (listed.setIfInBounds i true)=true->Region.ready .any ops listed=[i]->(T i=false->if Region.wanted ops[i] (yielded ops a.tmps) then ops[i].wp P a w (λa' w'=>GrN N w w'/\Xf N P ops Q (Qy ops.toList r) a' w') (QF Q) else Xf N P ops Q (Qy ops.toList r) (a.put ops[i].dst undef) w) ->
    (T i=true->if Region.wanted ops[i] (yielded ops a.tmps) then ops[i].wp P a w (Xf N P ops Q (Qy ops.toList r)) (QF Q) else Xf N P ops Q (Qy ops.toList r) (a.put ops[i].dst undef) w)->Up N P ops Q T (r.length+1) listed a w:=λhB' hr hf ht=>by
   have hcl':Closed ops (listed.setIfInBounds i true):=hcl.step (by grind);refine⟨λh0=>(by rw[hr]at h0;cases h0),λj hj=>?_⟩;rw[hr]at hj;obtain rfl:j=i:=by simpa using hj
   unfold wpOp;simp only[ho];cases hT:T j with
   | false=>
    have h:=hf hT;split
    .rename_i hw;simp only[hw,if_true]at h;exact .inl (Oper.wp_mono (λa' w' h'=>⟨λ_=>h'.1,hrec hcl' hB' _ _ h'.2⟩) h)
    repeat grind [GrN.refl]
   | true=>
    have h:=ht hT;split
    .rename_i hw;simp only[hw,if_true]at h;exact .inl (Oper.wp_mono (λa' w' h'=>⟨λh0=>(by cases h0),hrec hcl' hB' _ _ h'⟩) h)
    repeat grind
  match k,hTi,hk0,hR,hB,h with
  | 0,hTi,_,hR,hB,h=>
   simp only[Qt,Bool.and_eq_true]at hB;obtain⟨⟨hr,hf⟩,hB'⟩:=hB;have hr':i∈Region.ready .any ops listed:=by simpa using hr
   simp only[Qy,hn,Xf,Uj]at h;obtain⟨v,hy,h⟩:=h;refine Qjl (GrN N) (GrN.refl N) (λh k=>GrN.trans h k) ho (Region.noSelect_spec hsel) ?_ r.length listed a w hcl (Region.free_spec ho hf) hr' hy (hrec (hcl.step hr') hB' _ _ h);intro listed' j hcl' hri hrj w w' hx;cases hT:T j with
   | false=>exact hx hT
   | true=>
    obtain⟨_,oj,hoj,_⟩:=mem_ready.1 hrj;have h1:=Gn hcl' F j i oj hoj (Gm hoj hrj) (hR j hT (Array.getElem?_eq_some_iff.1 hoj).1 _ (mC ..) rfl);have h0:=(mem_ready.1 hri).1;grind
  | 1,hTi,_,hR,hB,h=>
   simp only[Qt,Bool.and_eq_true,beq_iff_eq]at hB;simp only[Qy,hn,Xf,Uj]at h;grind
  | 2,hTi,_,hR,hB,h=>
   simp only[Qt,Bool.and_eq_true,beq_iff_eq]at hB;simp only[Qy,hn,Xf,Uj]at h;grind
  | k+3,_,hk0,_,_,_=>simp at hk0
def Jvr(ops:Array Oper)(F:Nat)(s:List (Nat×Nat)): Bool :=
 Region.noSelect ops && (s.length == ops.size) && (s.all λp=>Nat.ble p.1 2) && (s.all λp=>Nat.blt p.2 ops.size) && (s.all λp=>(p.1 == 2) == Ux s p.2) &&
 ((List.range ops.size).all λt=>!Ux s t || s.all λp=>p.1 != 0 || Vk ops F t p.2) && Qt ops s (Array.replicate ops.size false)
end
section
variable {N:Nat->Prop} {P:Program} {n:Nat} {al al':AL} {w:World} {Q:Exit->Act->World->Prop} {ops:Array Oper} {rest:List (Nat×Oper)} {drest:List (Nat×Oper)}
variable {d ty:Nat} {op:Op} {pos:String} {aft:Array Edge} {tt:TT}
def WN(N:Nat->Prop)(P:Program)(n:Nat)(ops:Array Oper)(Q:Exit->Act->World->Prop)(l:List (Nat×Oper))(al:AL)(w:World): Prop:=∀ a,Fr n al a->Xf N P ops Q l a w
theorem WN.sub{l:List (Nat×Oper)}(hs:Sub al' al)(h:WN N P n ops Q l al' w): WN N P n ops Q l al w:=λa u=>h a (u.sub hs)
theorem Qjv{l:List Oper}(N:Nat->Prop)(F:Nat)(s:List (Nat×Nat))(hm:P.follows .mixedOrders=true)(hB:Jvr l.toArray F s=true)(h:WN N P n l.toArray Q (Qy l s) al w.drew): WC P n (.region id l.toArray true) Q al w:=by
 intro a J;simp only[Jvr,Bool.and_eq_true,beq_iff_eq,List.all_eq_true,List.mem_range,Bool.or_eq_true,Bool.not_eq_true',bne_iff_ne]at hB;obtain⟨⟨⟨⟨⟨⟨h1,y⟩,h3⟩,Z⟩,U⟩,h6⟩,O⟩:=hB;refine wp_region_any hm ?_;rw[<-y];refine Jdm (T:=Ux s) _ _ _ _ (Jdn (N:=N) h1 F s _ a _ ?_ (λp u=>h3 p u) (λp u=>?_) (λp u=>?_) (λt ht D p u h0=>?_) (by rw[y];exact O) ?_)
 .intro k o ho G e he hb;exfalso
  simp only[Array.getD_eq_getD_getElem?,Array.getElem?_replicate]at G;grind
 .have:=Z p u;have h':p.2+1<=l.toArray.size:=by simpa [Nat.blt] using this
  omega
 .simpa using U p u
 .grind
 have:=h a J;simpa using this
theorem drN[h:Tab P tt]{l:List Oper}(N:Nat->Prop)(F:Nat)(s:List (Nat×Nat))(hB:Jvr l.toArray F s=true)(k:WN N P n l.toArray Q (Qy l s) al w.drew): WC P n (.region id l.toArray true) Q al w:=Qjv N F s h.mixed hB k
def YldN(N:Nat->Prop)(P:Program)(n:Nat)(al:AL)(w:World)(o:Oper)(v:Value): Prop:=∀ w',GrN N w w'->∀ a,Fr n al a->(execOp a.eval o).run P w'=.ok (.value v) w'
theorem nnil_(h:QX n Q .normal al w): WN N P n ops Q [] al w:=λa u=>h a u
theorem ny_(hy:YldN N P n al w ⟨some d,op,ty,pos,aft,none⟩ v)(hd:Nat.blt d n=true)(k:WN N P n ops Q rest ((d,v)::al) w): WN N P n ops Q ((0,⟨some d,op,ty,pos,aft,none⟩)::rest) al w:=λa y=>by
 have u:d<n:=by(have:d+1<=n:=by simpa [Nat.blt] using hd);(omega)
 exact⟨v,.inl ⟨rfl,λw' D=>hy w' D a y⟩,k _ (y.put u v)⟩
theorem np_{tt:TT}(hT:TOk P tt)(hv:pv tt (ev al) op=some v)(hd:Nat.blt d n=true)(k:WN N P n ops Q rest ((d,v)::al) w): WN N P n ops Q ((0,⟨some d,op,ty,pos,aft,none⟩)::rest) al w :=
 ny_ (λw' _ a D=>Uv w' hT (λx u y=>D.ev y) hv) hd k
theorem npn_{tt:TT}(hT:TOk P tt)(hv:pv tt (ev al) op=some v)(k:WN N P n ops Q rest al w): WN N P n ops Q ((0,⟨none,op,ty,pos,aft,none⟩)::rest) al w:=λa D=>
 ⟨v,.inl ⟨rfl,λw' y=>Uv w' hT (λx u y=>D.ev y) hv⟩,k _ D⟩
theorem Qcb{kd:Nat}(hj:Xs ops j=some s)(hs:lk al s=some (.bool b))(k:WN N P n ops Q ((kd,⟨dst,op,ty,pos,aft,none⟩)::rest) al w):
  WN N P n ops Q ((kd,⟨dst,op,ty,pos,aft,some (j,b)⟩)::rest) al w:=λa D=>by
 have h:=k a D;have G:=Kh (ops:=ops) D hj hs;have F:Region.wanted (⟨dst,op,ty,pos,aft,none⟩:Oper) (yielded ops a.tmps)=true:=rfl;have y:Region.wanted (⟨dst,op,ty,pos,aft,some (j,b)⟩:Oper) (yielded ops a.tmps)=true:=by simp[Region.wanted,G]
 unfold Xf Uj at h ⊢;match kd,h with
 | 0,h=>
  obtain⟨v,u,J⟩:=h;refine⟨v,?_,J⟩;rcases u with u|u
  .exact .inl ⟨y,u.2⟩
  repeat grind
 | 1,h=>simp only[F,if_true]at h;simp only[y,if_true];exact h
 | k+2,h=>simp only[F,if_true]at h;simp only[y,if_true];exact h
theorem Qbv{kd:Nat}(hj:Xs ops j=some s)(hs:lk al s=some (.bool b))(hne:(b == c)=false)(hd:Nat.blt d n=true)(k:WN N P n ops Q rest ((d,undef)::al) w):
  WN N P n ops Q ((kd,⟨some d,op,ty,pos,aft,some (j,c)⟩)::rest) al w:=λa F=>by
 have u:d<n:=by(have:d+1<=n:=by simpa [Nat.blt] using hd);(omega)
 have G:=Kh (ops:=ops) F hj hs;have D:Region.wanted (⟨some d,op,ty,pos,aft,some (j,c)⟩:Oper) (yielded ops a.tmps)=false:=by
  simp[Region.wanted,G];simpa using hne
 have y:=k _ (F.put u undef);unfold Xf Uj;match kd with
 | 0=>exact⟨undef,.inr ⟨D,rfl⟩,y⟩
 | 1=>simp only[D];exact y
 | m+2=>simp only[D];exact y
theorem Qbx(s:Nat)(u:Value)(hs:lk al s=some v)(hv:v=u)(k:WN N P n ops Q l ((s,u)::al) w): WN N P n ops Q l al w:=by
 subst hv;exact k.sub (Sub.cons hs Sub.refl)
theorem ν9{kd:Nat}(k:WN N P n ops Q drest ((d,undef)::al) w)(hj:Xs ops j=some s:=by rfl)(hs:lk al s=some undef:=by rfl)(hd:Nat.blt d n=true:=by rfl):
  WN N P n ops Q ((kd,⟨some d,op,ty,pos,aft,some (j,c)⟩)::drest) al w:=λa F=>by
 have u:d<n:=by(have:d+1<=n:=by simpa [Nat.blt] using hd);(omega)
 have G:=Jwt (ops:=ops) F hj hs;have D:Region.wanted (⟨some d,op,ty,pos,aft,some (j,c)⟩:Oper) (yielded ops a.tmps)=false:=by simp[Region.wanted,G]
 have y:=k _ (F.put u undef);unfold Xf Uj;match kd with
 | 0=>exact⟨undef,.inr ⟨D,rfl⟩,y⟩
 | 1=>simp only[D];exact y
 | m+2=>simp only[D];exact y
theorem ν4[h:Tab P tt](k:WN N P n ops Q drest ((d,v)::al) w)(hv:pv tt (ev al) op=some v:=by rfl)(hd:Nat.blt d n=true:=by rfl): WN N P n ops Q ((0,⟨some d,op,ty,pos,aft,none⟩)::drest) al w:=np_ h.ok hv hd k
theorem ν5(h:QX n Q .normal al w): WN N P n ops Q [] al w:=nnil_ h
theorem ν6{kd:Nat}(k:WN N P n ops Q ((kd,⟨dst,op,ty,pos,aft,none⟩)::drest) al w)(hj:Xs ops j=some s:=by rfl)(hs:lk al s=some (.bool b):=by rfl): WN N P n ops Q ((kd,⟨dst,op,ty,pos,aft,some (j,b)⟩)::drest) al w:=Qcb hj hs k
theorem ν7{kd:Nat}(k:WN N P n ops Q drest ((d,undef)::al) w)(hj:Xs ops j=some s:=by rfl)(hs:lk al s=some (.bool b):=by rfl)(hne:(b == c)=false:=by rfl)(hd:Nat.blt d n=true:=by rfl):
  WN N P n ops Q ((kd,⟨some d,op,ty,pos,aft,some (j,c)⟩)::drest) al w:=Qbv hj hs hne hd k
theorem ν8[h:Tab P tt](k:WN N P n ops Q drest al w)(hv:pv tt (ev al) op=some v:=by rfl): WN N P n ops Q ((0,⟨none,op,ty,pos,aft,none⟩)::drest) al w:=npn_ h.ok hv k
theorem nadd_{t:TypeId}{b:Int}(hx:ev al x=some (.int .i64 a))(hy:ev al y=some (.int .i64 b))(hc:-9223372036854775808<=a+b/\a+b<=9223372036854775807)(hd:Nat.blt d n=true)(k:WN N P n ops Q rest ((d,.int .i64 (a+b))::al) w): WN N P n ops Q ((0,⟨some d,.binOp .add t x y yt,ty,pos,aft,none⟩)::rest) al w:=by
 have e:IntKind.i64.wrap (a+b)=a+b:=by rw[IntKind.wrap_i64];omega
 exact np_ (tt:=[]) trivial (v:=.int .i64 (a+b)) (by grind [pv,bop]) hd k
theorem nsub_{t:TypeId}{b:Int}(hx:ev al x=some (.int .i64 a))(hy:ev al y=some (.int .i64 b))(hc:-9223372036854775808<=a-b/\a-b<=9223372036854775807)(hd:Nat.blt d n=true)(k:WN N P n ops Q rest ((d,.int .i64 (a-b))::al) w): WN N P n ops Q ((0,⟨some d,.binOp .sub t x y yt,ty,pos,aft,none⟩)::rest) al w:=by
 have e:IntKind.i64.wrap (a-b)=a-b:=by rw[IntKind.wrap_i64];omega
 exact np_ (tt:=[]) trivial (v:=.int .i64 (a-b)) (by grind [pv,bop]) hd k
theorem ν1{t:TypeId}{b:Int}(k:WN N P n ops Q drest ((d,.int .i64 (a+b))::al) w)(hx:ev al x=some (.int .i64 a):=by rfl)(hy:ev al y=some (.int .i64 b):=by rfl)(hd:Nat.blt d n=true:=by rfl)(hc:-9223372036854775808<=a+b/\a+b<=9223372036854775807:=by omega):
  WN N P n ops Q ((0,⟨some d,.binOp .add t x y yt,ty,pos,aft,none⟩)::drest) al w:=nadd_ hx hy hc hd k
theorem ν2{t:TypeId}{b:Int}(k:WN N P n ops Q drest ((d,.int .i64 (a-b))::al) w)(hx:ev al x=some (.int .i64 a):=by rfl)(hy:ev al y=some (.int .i64 b):=by rfl)(hd:Nat.blt d n=true:=by rfl)(hc:-9223372036854775808<=a-b/\a-b<=9223372036854775807:=by omega):
  WN N P n ops Q ((0,⟨some d,.binOp .sub t x y yt,ty,pos,aft,none⟩)::drest) al w:=nsub_ hx hy hc hd k
theorem nkv(s:Nat)(hv:v=u)(k:WN N P n ops Q l ((s,u)::al) w)(hs:lk al s=some v:=by rfl): WN N P n ops Q l al w:=Qbx s u hs hv k
theorem nload(hT:TOk P tt)(ht:tk tt t=some k)(hk:Zw k.desc=true)(hx:ev al x=some (.pointer (some p)))(hc:∀ w',GrN N w w'->w'.cell? p=some v)(hd:Nat.blt d n=true)(kk:WN N P n ops Q rest ((d,v)::al) w): WN N P n ops Q ((0,⟨some d,.load t x,ty,pos,aft,none⟩)::rest) al w :=
 ny_ (λw' u a y=>by simp[execOp,y.ev hx,Instr.loadAt,Instr.sureAddr,Jgv (w:=w') hT ht hk (hc w' u)]) hd kk
theorem Qbw(hT:TOk P tt)(ht:tk tt t=some k)(hk:k.desc=.invalid)(hl:k.size=cs.length)(hx:ev al x=some (.pointer (some p)))(hc:∀ w',GrN N w w'->∀ j u,cs[j]?=some u->w'.cell? (p.add j)=some u)(hd:Nat.blt d n=true)(kk:WN N P n ops Q rest ((d,.agg cs.toArray)::al) w): WN N P n ops Q ((0,⟨some d,.load t x,ty,pos,aft,none⟩)::rest) al w :=
 ny_ (λw' y a D=>by simp[execOp,D.ev hx,Instr.loadAt,Instr.sureAddr,Ku (w:=w') hT ht hk hl (hc w' y)]) hd kk
theorem Jlz(hT:TOk P tt){sz:Nat}{c:Nat}(q:Nat)(j:Nat)(ht:tk tt t=some k)(hk:k.desc=.slice e)(hz:k.esz=sz)(hx:ev al x=some (.slice A m c))(hi:ev al i=some (.int kd z))(hr:Rd w sz A m cs)(hj:z=(j:Int))(hlt:j<m)(h0:0<sz)(hq:j*sz=q)(hd:Nat.blt d n=true)(kk:WN N P n ops Q rest ((d,.pointer (some (adr A q)))::al) w): WN N P n ops Q ((0,⟨some d,.indexAddr t x i,ty,pos,aft,none⟩)::rest) al w:=by
 obtain⟨y,D⟩:=Ua hT ht hk hz;obtain⟨J,rfl,G⟩:=hr.isome om h0;subst hj;subst hq;refine ny_ (λw' F a u=>?_) hd kk;simp[execOp,u.ev hx,u.ev hi,Instr.indexAt,asIntOf,run_underlying y,Vj w' D,adr];intro h;omega
theorem Qbz(hT:TOk P tt){c:Nat}(j:Nat)(ht:tk tt t=some k)(hk:k.desc=.slice e)(hz:k.esz=1)(hx:ev al x=some (.slice A m c))(hi:ev al i=some (.int kd z))(hr:Rd w 1 A m cs)(hj:z=(j:Int))(hlt:j<m)(hd:Nat.blt d n=true)(kk:WN N P n ops Q rest ((d,.pointer (some (adr A j)))::al) w): WN N P n ops Q ((0,⟨some d,.indexAddr t x i,ty,pos,aft,none⟩)::rest) al w :=
 Jlz hT j j ht hk hz hx hi hr hj hlt om om hd kk
theorem nld[h:Tab P tt](hc:∀ w',GrN N w w'->w'.cell? p=some v)(kk:WN N P n ops Q drest ((d,v)::al) w)(ht:tk tt t=some k:=by rfl)(hk:Zw k.desc=true:=by rfl)(hx:ev al x=some (.pointer (some p)):=by rfl)(hd:Nat.blt d n=true:=by rfl): WN N P n ops Q ((0,⟨some d,.load t x,ty,pos,aft,none⟩)::drest) al w:=nload h.ok ht hk hx hc hd kk
theorem Yw[h:Tab P tt](hc:∀ w',GrN N w w'->∀ j u,cs[j]?=some u->w'.cell? (p.add j)=some u)(kk:WN N P n ops Q drest ((d,.agg cs.toArray)::al) w)(ht:tk tt t=some k:=by rfl)(hk:k.desc=.invalid:=by rfl)(hl:k.size=cs.length:=by rfl)(hx:ev al x=some (.pointer (some p)):=by rfl)(hd:Nat.blt d n=true:=by rfl): WN N P n ops Q ((0,⟨some d,.load t x,ty,pos,aft,none⟩)::drest) al w:=Qbw h.ok ht hk hl hx hc hd kk
theorem nix[h:Tab P tt]{c:Nat}(j:Nat)(hr:Rd w 1 A m cs)(hlt:j<m)(kk:WN N P n ops Q drest ((d,.pointer (some (adr A j)))::al) w)(ht:tk tt t=some k:=by rfl)(hk:k.desc=.slice e:=by rfl)(hz:k.esz=1:=by rfl)(hx:ev al x=some (.slice A m c):=by rfl)(hi:ev al i=some (.int kd z):=by rfl)(hj:z=(j:Int):=by first|rfl|omega)(hd:Nat.blt d n=true:=by rfl):
  WN N P n ops Q ((0,⟨some d,.indexAddr t x i,ty,pos,aft,none⟩)::drest) al w:=Qbz h.ok j ht hk hz hx hi hr hj hlt hd kk
theorem Vt[h:Tab P tt]{c:Nat}(sz j:Nat)(hr:Rd w sz A m cs)(hlt:j<m)(kk:WN N P n ops Q drest ((d,.pointer (some (adr A (j*sz))))::al) w)(ht:tk tt t=some k:=by rfl)(hk:k.desc=.slice e:=by rfl)(hz:k.esz=sz:=by rfl)(hx:ev al x=some (.slice A m c):=by rfl)(hi:ev al i=some (.int kd z):=by rfl)(hj:z=(j:Int):=by first|rfl|omega)(h0:0<sz:=by omega)(hd:Nat.blt d n=true:=by rfl):
  WN N P n ops Q ((0,⟨some d,.indexAddr t x i,ty,pos,aft,none⟩)::drest) al w:=Jlz h.ok (j*sz) j ht hk hz hx hi hr hj hlt h0 rfl hd kk
def toN(N:Nat->Prop)(P:Program)(ops:Array Oper)(Q:Exit->Act->World->Prop)(w0:World)(rest:List (Nat×Oper)): Exit->Act->World->Prop
 | .normal,a,w=>GrN N w0 w/\Xf N P ops Q rest a w
 | _,_,_=>False
theorem Qg{w0:World}(hx:GrN N w0 w)(h:WN N P n ops Q drest al w): QX n (toN N P ops Q w0 drest) .normal al w:=λa u=>⟨hx,h a u⟩
theorem nop(h:WL P n ops (toN N P ops Q w drest) [o] al w): WN N P n ops Q ((1,o)::drest) al w:=λa D=>by
 have u:=h a D;unfold wpList at u;unfold Xf Uj;simp only;have y:¬ LetsOut (toN N P ops Q w drest):=by rintro⟨a,w,h⟩;exact h
 split
 .rename_i hw;simp only[hw,if_true]at u;rcases u with u|⟨_,u⟩
  .refine Oper.wp_mono (K:=wpList P ops (toN N P ops Q w drest) []) (λG w' F=>F) ?_;unfold Oper.wp at u ⊢;grind [Yx,toN]
  exact absurd u y
 rename_i hw;simp only[hw]at u;exact u.2
def toT(N:Nat->Prop)(P:Program)(ops:Array Oper)(Q:Exit->Act->World->Prop)(rest:List (Nat×Oper)): Exit->Act->World->Prop
 | .normal,a,w=>Xf N P ops Q rest a w
 | _,_,_=>False
theorem Uf(h:WN N P n ops Q drest al w): QX n (toT N P ops Q drest) .normal al w:=h
theorem Xm(h:WL P n ops (toT N P ops Q drest) [o] al w): WN N P n ops Q ((2,o)::drest) al w:=λa F=>by
 have u:=h a F;unfold wpList at u;unfold Xf Uj;simp only;have y:¬ LetsOut (toT N P ops Q drest):=by rintro⟨a,w,h⟩;exact h
 split
 .rename_i hw;simp only[hw,if_true]at u;rcases u with u|⟨_,u⟩
  .refine Oper.wp_mono (K:=Xf N P ops Q drest) (λJ w' G=>G) ?_;unfold Oper.wp at u ⊢;exact Yx (Q:=toT N P ops Q drest) (λc a w D=>D.elim) (λD=>absurd D y) u
  exact absurd u y
 rename_i hw;simp only[hw]at u;exact u
theorem Qf(hc:w.cell? p=some v)(hn:¬ N p.block): ∀ w',GrN N w w'->w'.cell? p=some v:=λw' u=>by
 rw[<-hc];exact World.cell?_of_block (u.block _ (World.block_lt_of_cell? w p hc) hn)
end
end Go.Wk
namespace Go.Wk
theorem ρn{p q:Prop}(h:p)(t:Hold p->q:=by intro h;(repeat first|refine ν1 ?_|refine ν2 ?_|refine ν4 ?_|refine ν5 ?_|refine ν6 ?_|refine ν7 ?_|refine ν9 ?_|refine ν8 ?_|refine χ1 ?_|refine χ2 ?_|refine χ3 ?_|refine χ4 ?_|refine χ5 ?_|refine χ6 ?_|refine χ7 ?_);exact h.of): q:=t ⟨h⟩
end Go.Wk
namespace Go.Proofs.YtebiphhfkdbpfaaGreat
open Go.RowKit Pl Go.Wk
attribute [local irreducible] WC WL QX WD WDB WP
variable {cs xs xs':List Value}{base c d g k l s t:Nat}{fs fs':Nat->List Nat}{M:Nat->Prop}{vs vs':Nat->Row}{fv vv:Nat->Value}{A:Option Addr}{a b x:Row}{v' v4 va vb vx:Value}{w w4:World}
structure TriB(w:World)(base:Nat)(A:Option Addr)(d:Nat)(vv fv:Nat->Value)(vs:Nat->Row)(fs:Nat->List Nat): Prop where
 lev:w.ownsRow base 219 2 (.slice A d d) d (Xb d vv fv)
 vals:Fam w base 75 3 d vv (λl=>(vs l).length) (λl=>Je (vs l))
 fst:Fam w base 3 1 d fv (λl=>(fs l).length) (λl=>Jp (nz (fs l)))
section
variable {w w':World} {base:Nat} {A:Option Addr} {d:Nat} {vv fv:Nat->Value} {vs:Nat->Row} {fs:Nat->List Nat}
theorem TriB.ext(h:TriB w base A d vv fv vs fs)(hx:Ext w w'): TriB w' base A d vv fv vs fs:=⟨Jb h.lev hx,h.vals.ext hx,h.fst.ext hx⟩
theorem TriB.vform(h:TriB w base A d vv fv vs fs)(hl:l<d): ∃ B c,vv l=.slice B (vs l).length c/\(vs l).length<=c/\Rd w 3 B (vs l).length (Je (vs l)):=by
 obtain⟨B,c,e,u,_⟩:=Jy (h.vals.own l hl);refine⟨B,c,e,u,?_⟩;have:=h.vals.own l hl;rw[e]at this;exact Rd.own this
theorem TriB.fform(h:TriB w base A d vv fv vs fs)(hl:l<d): ∃ B c,fv l=.slice B (fs l).length c/\(fs l).length<=c/\Rd w 1 B (fs l).length (Jp (nz (fs l))):=by
 obtain⟨B,c,e,u,_⟩:=Jy (h.fst.own l hl);refine⟨B,c,e,u,?_⟩;have:=h.fst.own l hl;rw[e]at this;exact Rd.own this
theorem TriB.rd(h:TriB w base A d vv fv vs fs): Rd w 2 A d (Xb d vv fv):=Rd.own h.lev
theorem TriB.v(h:TriB w base A d vv fv vs fs)(hl:l<d): w.cell? (adr A (l*2))=some (vv l):=h.rd.cell (Ye d vv fv hl).1
theorem TriB.v0(h:TriB w base A d vv fv vs fs)(hl:l<d): w.cell? ((adr A (l*2)).add 0)=some (vv l):=by rw[add_zero];exact h.v hl
theorem TriB.f1(h:TriB w base A d vv fv vs fs)(hl:l<d): w.cell? ((adr A (l*2)).add 1)=some (fv l):=by rw[Gv];exact h.rd.cell (Ye d vv fv hl).2
theorem TriB.f(h:TriB w base A d vv fv vs fs)(hl:l<d): w.cell? (adr A (l*2+1))=some (fv l):=h.rd.cell (Ye d vv fv hl).2
end
theorem Jvd{li:Int}(hR:Rd w 2 A d (Xb d vv fv))(hv:∀ l,l<d->∃ B c,vv l=.slice B (vs l).length c)(hli:li=(l:Int))(hd:d<=32):
  Ret Tryz.prog 139 [.agg #[.slice A d c],.int .i64 li] w λu w'=>u=.int .i64 (if l<d then(vs l).length else 0:Nat)/\Ext w w':=by
 subst hli;refine Jz Tryz.func139 Tryz.ntmps139 rfl kr rfl ?_;refine ρ ?_;refine bx ?_;intro w1 b y O G;refine ρ ?_;refine ld (G.at (i:=0) rfl) ?_;refine ρ ?_;refine ci (λh=>?_) (λh=>?_)
 .refine ρ ?_;refine Jq ⟨?_,y⟩;grind
 have F:l<d:=by grind
 have D:=hR.ext y;obtain⟨B,U,e⟩:=hv l F;refine ρ ?_;refine ld (G.at (i:=0) rfl) ?_;refine ρ ?_;refine ixq 2 l D F ?_;have J:w1.cell? ((adr A (l*2)).add 0)=some (vv l):=by rw[add_zero];exact D.cell (Ye d vv fv F).1
 refine ρ ?_;refine ld J ?_;rw[e];refine ρ ?_;refine Jq ⟨?_,y⟩;rw[if_pos F]
theorem Qxd(ha:RowV w va a)(hb:RowV w vb b)(hlen:a=[]∨a.length=b.length): Ret Tryz.prog 138 [va,vb] w λu w'=>u=.int .i64 (shr a b:Int)/\Ext w w':=by
 obtain⟨A,ac,rfl,a7,a6,a1⟩:=ha;obtain⟨B,bc,rfl,a5,a4,Z⟩:=hb;refine Jz Tryz.func138 Tryz.ntmps138 rfl kr rfl ?_;refine ρ ?_;refine Jl (fun (k:Nat)=>[(0,.slice A a.length ac),(1,.slice B b.length bc),(5,.int .i64 (k:Int))]) (λk w'=>Ext w w'/\k<=a.length/\k<=b.length/\shr a b=k+shr (a.drop k) (b.drop k)) (λk=>a.length-k) 0 sB ⟨Ext.refl w,Nat.zero_le _,Nat.zero_le _,by simp⟩ ?_;rintro k w1 ⟨hx,a3,a2,he⟩;refine ρ ?_;refine Xg (fun (t:Bool)=>[(0,.slice A a.length ac),(1,.slice B b.length bc),(5,.int .i64 (k:Int)),(21,.bool t)]) (λt w'=>Ext w w'/\(t=true->k<a.length/\k<b.length/\a.getD k V0=b.getD k V0)/\(t=false->shr (a.drop k) (b.drop k)=0)) ?_ ?_
 .refine dr [(0,0),(0,1),(0,2),(0,3),(0,4),(0,5),(0,6),(0,7),(0,8),(0,9),(0,10),(0,11),(0,12),(1,13),(0,14),(0,15)] kr ?_;have D:=hx.drew;have O:RdR _ A a:=Rd.ext a1 D;have J:RdR _ B b:=Rd.ext Z D;refine ρd ?_;refine dki 10 (λh=>?_) (λh=>?_)
  .have G:k<a.length:=by have:=oT h;omega
   have F:k<b.length:=by grind
   refine ρd ?_;refine Qp 3 k O G ?_;refine ρd ?_;refine Qj (λj u U=>RdR.cell O G U) ?_;refine ρd ?_;refine Qp 3 k J F ?_;refine ρd ?_;refine Qj (λj u U=>RdR.cell J F U) ?_;refine ρd ?_;refine dcl (Jxv (a.getD k V0) (b.getD k V0) _) ?_;rintro x w2 ⟨rfl,y⟩;refine⟨y,?_⟩;refine ρd ?_;refine ρ ?_;refine Js _ sB ⟨D.trans y,λh=>⟨G,F,cmp_V.zero _ _ (Yp h)⟩,λh=>?_⟩;rw[List.drop_eq_getElem_cons G,List.drop_eq_getElem_cons F,shr,if_neg];intro e;have:=Vr h;grind [Ql,V0,Zr]
  refine ρd ?_;refine ρ ?_;refine Js false sB ⟨D,λe=>(by cases e),λ_=>?_⟩;grind [List.drop_of_length_le,Jvl]
 rintro t w2 ⟨y,h1,h2⟩;refine ci (λh=>?_) (λh=>?_)
 .obtain⟨G,F,e⟩:=h1 h;refine ρ ?_;refine Jg (k+1) sO ⟨y,om,om,?_⟩ om;grind [List.drop_eq_getElem_cons,shr,Ql,V0]
 refine ρ ?_;refine Jq ⟨?_,y⟩;rw[he,h2 h];rfl
def Zm(A:Option Addr)(d:Nat)(vv fv:Nat->Value)(k:Nat): Prop:=(Value.slice A d d).ownBlock=some k∨∃ l,l<d/\((vv l).ownBlock=some k∨(fv l).ownBlock=some k)
theorem Iv{e sz m base' e' sz' m':Nat}{v:Value}(h:w.ownsRow base e sz v m xs)(h':w.ownsRow base' e' sz' v' m' xs')(hne:Nat.beq e e'=false)(hg:v.ownBlock=some g): v'.ownBlock≠some g:=by
 have D:e≠e':=by intro y;subst y;simp at hne
 intro u;rcases h.2 with⟨rfl,_⟩|⟨g1,cap,cur,rfl,_,hh,_⟩
 .simp[Value.ownBlock]at hg
 rcases h'.2 with⟨rfl,_⟩|⟨g2,cap',cur',rfl,_,hh',_⟩
 .simp[Value.ownBlock]at u
 have G:g1=g:=by simpa [Value.ownBlock] using hg
 have F:g2=g:=by simpa [Value.ownBlock] using u
 grind
theorem TriB.box(h:TriB w base A d vv fv vs fs){b:Nat}(hB:Blk w b t cs)(h1:Nat.beq 219 t=false)(h2:Nat.beq 75 t=false)(h3:Nat.beq 3 t=false): ¬ Zm A d vv fv b:=by
 rintro(e|⟨l,u,e|e⟩)
 .exact hB.ne_own h.lev h1 e.symm
 .exact hB.ne_own (h.vals.own l u) h2 e.symm
 exact hB.ne_own (h.fst.own l u) h3 e.symm
theorem TriB.congr(h:TriB w base A d vv fv vs fs)(h1:∀ l,l<d->vs' l=vs l)(h2:∀ l,l<d->fs' l=fs l): TriB w base A d vv fv vs' fs' :=
 ⟨h.lev,⟨λi hi=>by rw[h1 i hi];exact h.vals.own i hi,h.vals.dis⟩,⟨λi hi=>by rw[h2 i hi];exact h.fst.own i hi,h.fst.dis⟩⟩
theorem Jgn{p:Addr}(u:Value): w.grownBy (w.setCell p u) (some p.block):=⟨rfl,rfl,rfl,by simp[World.setCell],λk y hn=>Below.heap_setCell w p u k (λe=>hn (by rw[e]))⟩
theorem TriB.setV{vv fv : Nat → Value}{vs : Nat → Row}{fs : Nat → List Nat}{r : Row}(H : TriB w base A d vv fv vs fs)(lk : k < d)(ho : w4.ownsRow base 75 3 v4 r.length (Je r))(hg : w.grownBy w4 (vv k).ownBlock)(hn : ∀ g, v4.ownBlock = some g → (vv k).ownBlock = some g ∨ w.heap.size ≤ g): w4.cell? ((adr A (k * 2)).add 0) = some (vv k) ∧ w4.frozen? ((adr A (k * 2)).add 0) = false ∧ v4.oneCell' = true ∧ TriB (w4.setCell ((adr A (k * 2)).add 0) v4) base A d (upd vv k v4) fv (upd vs k r) fs ∧
      w4.grownBy (w4.setCell ((adr A (k * 2)).add 0) v4) (Value.slice A d d).ownBlock := by
  have F4 := H.vals.upd lk ho hg hn
  have L4 := Zq H.lev (H.vals.own k lk) hg rfl
  have f4 := H.fst.other (H.vals.own k lk) hg rfl
  obtain ⟨s1, s2, s3, s4, s5⟩ := Zl L4 (q := k * 2) om v4
  rw [add_zero]
  have h1 : v4.oneCell' = true := by obtain ⟨B, c, e, _⟩ := Jy ho; rw [e]; rfl
  refine ⟨s1.trans (Ye d vv fv lk).1, s2, h1, ⟨?_, ?_, ?_⟩, s5⟩
  . grind [Jpn,lk]
  . have F5 := F4.other L4 s5 rfl
    refine ⟨fun i hi => ?_, F5.dis⟩
    have := F5.own i hi
    grind [Qw,Jm]
  . exact f4.other L4 s5 rfl
theorem TriB.setF{vv fv : Nat → Value}{vs : Nat → Row}{fs : Nat → List Nat}{r : List Nat}(H : TriB w base A d vv fv vs fs)(lk : k < d)(ho : w4.ownsRow base 3 1 v4 r.length (Jp (nz r)))(hg : w.grownBy w4 (fv k).ownBlock)(hn : ∀ g, v4.ownBlock = some g → (fv k).ownBlock = some g ∨ w.heap.size ≤ g): w4.cell? ((adr A (k * 2)).add 1) = some (fv k) ∧ w4.frozen? ((adr A (k * 2)).add 1) = false ∧ v4.oneCell' = true ∧ TriB (w4.setCell ((adr A (k * 2)).add 1) v4) base A d vv (upd fv k v4) vs (upd fs k r) ∧
      w4.grownBy (w4.setCell ((adr A (k * 2)).add 1) v4) (Value.slice A d d).ownBlock := by
  have F4 := H.fst.upd lk ho hg hn
  have L4 := Zq H.lev (H.fst.own k lk) hg rfl
  have f4 := H.vals.other (H.fst.own k lk) hg rfl
  obtain ⟨s1, s2, s3, s4, s5⟩ := Zl L4 (q := k * 2 + 1) om v4
  rw [Gv]
  have h1 : v4.oneCell' = true := by obtain ⟨B, c, e, _⟩ := Jy ho; rw [e]; rfl
  refine ⟨s1.trans (Ye d vv fv lk).2, s2, h1, ⟨?_, ?_, ?_⟩, s5⟩
  . grind [Jpm,lk]
  . exact f4.other L4 s5 rfl
  . have F5 := F4.other L4 s5 rfl
    refine ⟨fun i hi => ?_, F5.dis⟩
    have := F5.own i hi
    grind [Qw,Jm]
theorem Qyx(h:∀ j,Zm A d vv fv j->M j)(lk:k<d)(hn:∀ g,v4.ownBlock=some g->M g): ∀ j,Zm A d (upd vv k v4) fv j->M j:=by
 rintro j (e|⟨l,u,e|e⟩)
 .exact h j (.inl e)
 .by_cases el:l=k
  .grind [Qw]
  rw[Jm _ _ el]at e;exact h j (.inr ⟨l,u,.inl e⟩)
 exact h j (.inr ⟨l,u,.inr e⟩)
theorem Jlp(h:∀ j,Zm A d vv fv j->M j)(lk:k<d)(hn:∀ g,v4.ownBlock=some g->M g): ∀ j,Zm A d vv (upd fv k v4) j->M j:=by
 rintro j (e|⟨l,u,e|e⟩)
 .exact h j (.inl e)
 .exact h j (.inr ⟨l,u,.inl e⟩)
 by_cases el:l=k
 .grind [Qw]
 rw[Jm _ _ el]at e;exact h j (.inr ⟨l,u,.inr e⟩)
theorem Qmr(v:V)(w:World): (Instr.buildSlice 72 1 #[(0,v.val)]).run Tryz.prog w=.ok (.slice (some ⟨w.heap.size,0,none⟩) 1 1) (w.alloc (.cells v.cells.toArray 75)):=kr
theorem EVs: ElT Tryz.prog 72 75 3 32 (.agg #[.int .i64 0,.int .i64 0,.string ⟨#[]⟩]):=⟨Tryz.underlying72,info_parts kr,rfl,by decide⟩
theorem bs1Int'(z:Int)(w:World): (Instr.buildSlice 28 1 #[(0,.int .i64 z)]).run Tryz.prog w=.ok (.slice (some ⟨w.heap.size,0,none⟩) 1 1) (w.alloc (.cells [.int .i64 z].toArray 3)):=kr
theorem rowC_one'(v:V): Je [v]=v.cells:=by simp[Je]
theorem Qxk(H:TriB w base A d vv fv vs fs)(hx:Off (Zm A d vv fv) w (λu=>RowV u vx x))(hlen:x.length=d)(hd:d<=32)(hs:s<=d)(hbase:base<=w.heap.size)(hsm:∀ l,l<d->(vs l).length<=1000000/\(fs l).length<=1000000):
  Ret Tryz.prog 137 [.agg #[.slice A d d],vx,.int .i64 (s:Int)] w λu w'=>∃ vv' fv',TriB w' base A d vv' fv' (λl=>if s<=l then vs l++[x.getD l V0] else vs l) (λl=>if s<=l then fs l++[if l+1<d then(vs (l+1)).length else 0] else fs l) /\
   GrN (Zm A d vv fv) w w'/\∀ j,Zm A d vv' fv' j->Zm A d vv fv j∨w.heap.size<=j:=by
 obtain⟨X,xc,b4,bf,be,bd⟩:=hx.here;subst b4;refine Jz Tryz.func137 Tryz.ntmps137 rfl kr rfl ?_;refine ρ ?_;refine bx ?_;intro w1 b D hb hB;obtain⟨M,hM⟩:∃ M:Nat->Prop,M=λj=>Zm A d vv fv j∨w.heap.size<=j/\j≠b:=⟨_,rfl⟩;have aa:¬ M b:=by
  rw[hM];rintro(F|F)
  .exact(H.ext D).box hB rfl rfl rfl F
  exact F.2 rfl
 have ak:Off M w1 (λu=>RowV u (.slice X x.length xc) x):=λu hg=>hx u ⟨hg.os.trans D.os,hg.tape.trans D.tape,hg.output.trans D.output,Nat.le_trans D.size hg.size,λk hk hn=>(hg.block k (nM hk D.size) (λe=>by rw[hM]at e;rcases e with e|e;exact hn e;omega)).trans (D.block k hk)⟩;refine ρ ?_;refine Zk (fun (k:Nat) (vv' fv':Nat->Value)=>[(1,.slice X x.length xc),(3,.pointer (some ⟨b,0,none⟩)),(6,.int .i64 (k:Int))])
  (λk vv' fv' w'=>s<=k/\k<=d/\TriB w' base A d vv' fv' (λl=>if s<=l/\l<k then vs l++[x.getD l V0] else vs l) (λl=>if s<=l/\l<k then fs l++[if l+1<d then(vs (l+1)).length else 0] else fs l)/\GrN M w1 w'/\∀ j,Zm A d vv' fv' j->M j) (λk _ _=>d-k) s vv fv sB
  ⟨nR _,hs,?_,GrN.refl _ _,λj hj=>by rw[hM];exact .inl hj⟩ ?_
 .have e1:(λl=>if s<=l/\l<s then vs l++[x.getD l V0] else vs l)=vs:=by funext l;rw[if_neg om]
  have e2:(λl=>if s<=l/\l<s then fs l++[if l+1<d then(vs (l+1)).length else 0] else fs l)=fs:=by funext l;rw[if_neg om]
  rw[e1,e2];exact H.ext D
 rintro k vv' fv' w2 ⟨bj,bi,H2,a1,a7⟩;refine ρ ?_;refine ci (λh=>?_) (λh=>?_)
 .have lk:k<d:=by have:=oT h;omega
  have lx:k<x.length:=om
  have bg:=hsm k lk;clear h;obtain⟨B,c,b5,bb,b6⟩:=H2.vform lk;obtain⟨own,y⟩:∃ own,own=(vv' k).ownBlock:=⟨_,rfl⟩;have J:∀ j,own=some j->M j:=λj O=>a7 j (.inr ⟨k,lk,.inl (by rw[<-y];exact O)⟩);refine ρ ?_;refine Xg (fun (a5:Nat->Value)=>[(1,.slice X x.length xc),(3,.pointer (some ⟨b,0,none⟩)),(6,.int .i64 (k:Int))])
   (λa5 w5=>TriB w5 base A d a5 fv' (upd (λl=>if s<=l/\l<k then vs l++[x.getD l V0] else vs l) k (vs k++[x.getD k V0])) (λl=>if s<=l/\l<k then fs l++[if l+1<d then(vs (l+1)).length else 0] else fs l)/\GrN M w1 w5/\∀ j,Zm A d a5 fv' j->M j) ?_ ?_
  .refine drN (one own) 4 [(0,0),(0,1),(0,2),(0,3),(0,4),(0,5),(0,6),(0,7),(0,8),(0,9),(0,10),(0,11),(0,12),(1,13),(1,14),(0,15),(0,16),(2,17)] kr ?_;have a6:Ext w2 w2.drew:=(Ext.refl w2).drew;have a4:=H2.ext a6;have G:=a1.trans (GrN.ext a6);have aj:=Ja hB G aa;have ay:RdR w2.drew X x:=by
    obtain⟨X',ax,e1,_,_,e4⟩:=ak _ G;injection e1 with e1 _ _;subst e1;exact e4
   have nb:¬ one own b:=λe=>aa (J b e);have nA:∀ ad,A=some ad->¬ one own ad.block:=λad e F=>by
    subst e;exact Iv a4.lev (a4.vals.own k lk) rfl rfl (by rw[<-y];exact F)
   have ae:¬ one own (adr A (k*2)).block:=by
    obtain⟨ad,e,_⟩:=a4.rd.isome om om;subst e;simp only[adr,Option.getD_some,Yg];exact nA ad rfl
   have b2:∀ w',GrN (one own) w2.drew w'->RdR w' X x:=λw' hg=>by
    obtain⟨X',ax,e1,_,_,e4⟩:=ak _ (G.trans (hg.mono λj _ O=>J j O));injection e1 with e1 _ _;subst e1;exact e4
   refine ρn ?_;refine nld (Qf (aj.at (i:=0) rfl) nb) ?_;refine ρn ?_;refine nld (Qf (aj.at (i:=0) rfl) nb) ?_;refine ρn ?_;refine Vt 2 k a4.rd lk ?_;refine ρn ?_;refine nld (Qf (a4.v0 lk) (by rw[Yg];exact ae)) ?_;refine ρn ?_;refine Vt 3 k ay lx ?_;refine ρn ?_;refine Yw (cs:=(x.getD k V0).cells) (λw' hg j u hu=>RdR.cell (b2 w' hg) lx hu) ?_;refine ρn ?_;refine nop ?_;refine bsl (Qmr (x.getD k V0)) ?_;intro w3 b3 a3 bm b9;refine ρ ?_;refine Qg (GrN.ext a3) ?_;have H3:=a4.ext a3;have ar:=H3.vals.own k lk;rw[if_neg (show¬ (s<=k/\k<k) by omega)]at ar;have bh:(vs k).length+1<=1000001:=om
   refine nop ?_;refine apb (base:=base) EVs ar (b9.rd (n:=1) rfl) (V.one _) (by unfold maxLen;omega) om (nL hbase (nL D.size (nL G.size a3.size))) ?_;intro v4 w4 aq a9 aw;refine ρ ?_;refine Qg (GrN.by a9 λj O=>by rw[<-y]at O;exact O) ?_;have er:Je (vs k)++(x.getD k V0).cells=Je (vs k++[x.getD k V0]):=by rw[Qkw,rowC_one']
   have el:(vs k).length+1=(vs k++[x.getD k V0]).length:=by simp
   rw[er,el]at aq;obtain⟨c1,c2,c3,H5,af⟩:=H3.setV lk aq a9 aw;have bn:b<w2.drew.heap.size:=aj.lt;have L4:=Zq H3.lev (H3.vals.own k lk) a9 rfl;refine ρn ?_;refine Vt 2 k (Rd.own L4) lk ?_;refine ρn ?_;refine Xm ?_;refine sto c1 c2 ?_ (hv:=c3);refine ρ ?_;have ah:∀ g,v4.ownBlock=some g->M g:=λg eg=>by
    rcases aw g eg with F|F
    .exact J g (by rw[y];exact F)
    rw[hM];exact .inr ⟨nL D.size (nL G.size (nL a3.size F)),λe=>by have:=a3.size;omega⟩
   refine Js (upd vv' k v4) sB ⟨H5,?_,Qyx (M:=M) a7 lk ah⟩;exact((G.trans (GrN.ext a3)).trans (GrN.by a9 λj O=>J j (by rw[y];exact O))).trans (GrN.by af λj O=>a7 j (.inl O))
  clear J y b5 bb b6 H2 a1 a7;rintro a5 w5 ⟨H5,af,ai⟩;obtain⟨own,y⟩:∃ own,own=(fv' k).ownBlock:=⟨_,rfl⟩;have J:∀ j,own=some j->M j:=λj O=>ai j (.inr ⟨k,lk,.inr (by rw[<-y];exact O)⟩);refine drN (one own) 4 [(0,0),(0,1),(0,2),(0,3),(0,4),(0,5),(0,6),(0,7),(0,8),(0,9),(0,10),(0,11),(1,12),(1,13),(1,14),(0,15),(0,16),(2,17)] kr ?_;have a6:Ext w5 w5.drew:=(Ext.refl w5).drew;have Z:=H5.ext a6;have a2:=af.trans (GrN.ext a6);have ac:=Ja hB a2 aa;have nb:¬ one own b:=λe=>aa (J b e);have ae:¬ one own (adr A (k*2)).block:=by
   obtain⟨ad,e,_⟩:=Z.rd.isome om om;subst e;simp only[adr,Option.getD_some,Yg];intro F;exact Iv Z.lev (Z.fst.own k lk) rfl rfl (by rw[<-y];exact F)
  refine ρn ?_;refine nld (Qf (ac.at (i:=0) rfl) nb) ?_;refine ρn ?_;refine nld (Qf (ac.at (i:=0) rfl) nb) ?_;refine ρn ?_;refine Vt 2 k Z.rd lk ?_;refine ρn ?_;refine nld (Qf (Z.f1 lk) (by rw[Yg];exact ae)) ?_;refine ρn ?_;refine Yw (cs:=[.slice A d d]) (λw' hg j u hu=>(Ja ac hg nb).at hu) ?_;refine ρn ?_;refine nop ?_;refine cl (Jvd (l:=k+1) (li:=(k:Int)+1) Z.rd (λl hl=>by obtain⟨B,c,e,_⟩:=Z.vform hl;exact⟨B,c,e⟩) om hd) ?_;rintro u w6 ⟨rfl,an⟩;refine ρ ?_;refine Qg (GrN.ext an) ?_;obtain⟨nn,au⟩:∃ nn:Nat,nn=if k+1<d then(vs (k+1)).length else 0:=⟨_,rfl⟩
  have bc:(if k+1<d then List.length (upd (λl=>if s<=l/\l<k then vs l++[x.getD l V0] else vs l) k (vs k++[x.getD k V0]) (k+1)) else 0)=nn:=by
   rw[au,Jm _ _ om,if_neg (show¬ (s<=k+1/\k+1<k) by omega)]
  rw[bc];refine nop ?_;refine bsl (bs1Int' (nn:Int)) ?_;intro w7 b7 am bl b8;refine ρ ?_;refine Qg (GrN.ext am) ?_;have U:=an.trans am;have H7:=Z.ext U;have ap:=H7.fst.own k lk;rw[if_neg (show¬ (s<=k/\k<k) by omega)]at ap;refine nop ?_;refine apb (base:=base) EI ap (b8.rd (n:=1) rfl) (λu hu=>by rw[List.mem_singleton.1 hu];rfl) (by unfold maxLen;omega) om (nL hbase (nL D.size (nL a2.size U.size))) ?_;intro v8 w8 ao a8 av;refine ρ ?_;refine Qg (GrN.by a8 λj O=>by rw[<-y]at O;exact O) ?_;have er:Jp (nz (fs k))++[.int .i64 (nn:Int)]=Jp (nz (fs k++[nn])):=by simp[Jp,nz]
  have el:(fs k).length+1=(fs k++[nn]).length:=by simp
  rw[er,el]at ao;obtain⟨c1,c2,c3,H9,ba⟩:=H7.setF lk ao a8 av;have L8:=Zq H7.lev (H7.fst.own k lk) a8 rfl;refine ρn ?_;refine Vt 2 k (Rd.own L8) lk ?_;refine ρn ?_;refine Xm ?_;refine sto c1 c2 ?_ (hv:=c3);refine ρ ?_;have ah:∀ g,v8.ownBlock=some g->M g:=λg eg=>by
   rcases av g eg with F|F
   .exact J g (by rw[y];exact F)
   rw[hM];exact .inr ⟨nL D.size (nL a2.size (nL U.size F)),λe=>by have:=U.size;have:=ac.lt;omega⟩
  refine Qa (k+1) a5 (upd fv' k v8) sO ⟨om,om,H9.congr (λl hl=>?_) (λl hl=>?_),?_,Jlp (M:=M) ai lk ah⟩ om
  .by_cases e:l=k
   .subst e;rw[Qw,if_pos om]
   rw[Jm _ _ e];by_cases e2:s<=l/\l<k
   .rw[if_pos e2,if_pos om]
   rw[if_neg e2,if_neg om]
  .by_cases e:l=k
   .subst e;rw[Qw,if_pos om,au]
   rw[Jm _ _ e];by_cases e2:s<=l/\l<k
   .rw[if_pos e2,if_pos om]
   rw[if_neg e2,if_neg om]
  exact((a2.trans (GrN.ext U)).trans (GrN.by a8 λj O=>J j (by rw[y];exact O))).trans (GrN.by ba λj O=>ai j (.inl O))
 have ek:k=d:=by have:=oF h;omega
 subst ek;refine ρ ?_;refine Ve ⟨vv',fv',H2.congr (λl hl=>?_) (λl hl=>?_),?_,λj hj=>?_⟩
 .by_cases e:s<=l
  .rw[if_pos e,if_pos ⟨e,hl⟩]
  rw[if_neg e,if_neg (λF=>e F.1)]
 .by_cases e:s<=l
  .rw[if_pos e,if_pos (show s<=l/\l<k from⟨e,hl⟩)]
  rw[if_neg e,if_neg (λF=>e F.1)]
 .exact⟨a1.os.trans D.os,a1.tape.trans D.tape,a1.output.trans D.output,Nat.le_trans D.size a1.size,λj hj hn=>(a1.block j (nM hj D.size) (λe=>by rw[hM]at e;rcases e with e|e;exact hn e;omega)).trans (D.block j hj)⟩
 have:=a7 j hj;rw[hM]at this;exact this.imp id λF=>F.1
open Go.RowKit Pl Go.Wk
attribute [local irreducible] WN
variable {t:Int}{zs:List Int}{base c d n:Nat}{A:Option Addr}{w:World}
theorem Qfw(hR:Rd w 1 A n (Jp zs))(hn:zs.length=n)(hm:n<=1100000): Ret Tryz.prog 167 [.slice A n c,.int .i64 t] w λu w'=>w'=w/\∃ z,u=.int .i64 z/\(0<=z↔t∈zs):=by
 refine Jz Tryz.func167 Tryz.ntmps167 rfl kr rfl ?_;refine ρ ?_;refine Jl (fun (k:Nat)=>[(0,.slice A n c),(1,.int .i64 t),(7,.int .i64 (n:Int)),(8,.int .i64 (k:Int))]) (λk w'=>w'=w/\k<=n/\t ∉ zs.take k) (λk=>n-k) 0 sB ⟨rfl,Nat.zero_le _,by simp⟩ ?_;rintro k w' ⟨rfl,D,F⟩;refine ρ ?_;refine ci (λh=>?_) (λh=>?_)
 .have lk:k<n:=by have:=oT h;omega
  have y:k<zs.length:=om
  refine ρ ?_;refine ix k hR lk ?_;refine ρ ?_;refine ld (hR.cell (Vd y)) ?_;refine ρ ?_;refine ci (λh=>?_) (λh=>?_)
  .refine ρ ?_;refine Jq ⟨rfl,(k:Int),rfl,⟨λ_=>?_,λ_=>om⟩⟩;grind
  refine ρ ?_;refine Jg (k+1) sO ⟨rfl,om,?_⟩ om;rw[Xu 0 y,List.mem_append,List.mem_singleton];grind
 refine ρ ?_;refine Jq ⟨rfl,-1,rfl,⟨λe=>om,λe=>?_⟩⟩;grind
theorem Qlf(hR:Rd w 1 A n (Jp zs))(hn:zs.length=n)(hm:n<=1100000): Ret Tryz.prog 136 [.slice A n c,.int .i64 t] w λu w'=>w'=w/\∃ b:Bool,u=.bool b/\(b=true↔t∈zs):=by
 refine Jz Tryz.func136 Tryz.ntmps136 rfl kr rfl ?_;refine ρ ?_;refine cl (Qfw hR hn hm) ?_;rintro u w' ⟨rfl,z,rfl,y⟩;refine ρ ?_;exact Jq ⟨rfl,decide (0<=z),rfl,by grind⟩
def TriV(w:World)(v:Value)(d:Nat)(rs:List Row): Prop:=∃(A:Option Addr) (vv fv:Nat->Value) (fs:Nat->List Nat),v=.agg #[.slice A d d]/\Rd w 2 A d (Xb d vv fv)/\(∀ l,l<d->∃ B c,vv l=.slice B (lvl rs l).length c/\RdR w B (lvl rs l)) /\
 (∀ l,l<d->∃ B c,fv l=.slice B (fs l).length c/\Rd w 1 B (fs l).length (Jp (nz (fs l))))/\∀ l,l+1<d->Chl rs l (fs l)
theorem TriV.ext{w w':World}{v:Value}{d:Nat}{rs:List Row}(h:TriV w v d rs)(hx:Ext w w'): TriV w' v d rs:=by
 obtain⟨A,vv,fv,fs,F,D,J,G,y⟩:=h;refine⟨A,vv,fv,fs,F,D.ext hx,λl u=>?_,λl u=>?_,y⟩;repeat grind [Rd.ext]
theorem TriB.off{vv fv:Nat->Value}{rs:List Row}{fs:Nat->List Nat}{N:Nat->Prop}(h:TriB w base A d vv fv (lvl rs) fs)(hc:∀ l,l+1<d->Chl rs l (fs l))(hN:∀ j,Zm A d vv fv j->¬ N j): Off N w (λu=>TriV u (.agg #[.slice A d d]) d rs):=by
 intro u F;refine⟨A,vv,fv,fs,rfl,Zg h.rd F (λ_ J e=>?_),λl y=>?_,λl y=>?_,hc⟩
 .subst e;exact hN _ (.inl rfl)
 .obtain⟨B,c,e,_,D⟩:=h.vform y;refine⟨B,c,e,Zg D F λ_ J G=>hN _ (.inr ⟨l,y,.inl ?_⟩)⟩;rw[e,G];rfl
 obtain⟨B,c,e,_,D⟩:=h.fform y;refine⟨B,c,e,Zg D F λ_ J G=>hN _ (.inr ⟨l,y,.inr ?_⟩)⟩;rw[e,G];rfl
theorem Jws: Qu Tryz.prog 195=some (.agg #[.slice none 0 0]):=kr
theorem Qnj(A:Option Addr)(n c:Nat)(w:World): (Instr.build 195 #[(0,.slice A n c)]).run Tryz.prog w=.ok (.agg #[.slice A n c]) w:=kr
theorem EL: ElT Tryz.prog 193 219 2 48 (.agg #[.slice none 0 0,.slice none 0 0]):=⟨Tryz.underlying193,info_parts kr,rfl,by decide⟩
theorem one1: ∀ u∈[Value.slice A n c],u.oneCell'=true:=by intro u y;rw[List.mem_singleton.1 y];rfl
theorem made2(d:Nat): (madeCells (Value.agg #[.slice none 0 0,.slice none 0 0]).cells (d*2)).toList=Xb d (λ_=>.slice none 0 0) (λ_=>.slice none 0 0):=by
 apply List.ext_getElem?
 intro k;have D:(Value.agg #[.slice none 0 0,.slice none 0 0]).cells = #[.slice none 0 0,.slice none 0 0]:=rfl;rw[D];by_cases hk:k<d*2
 .have u:=Ye d (λ_=>Value.slice none 0 0) (λ_=>Value.slice none 0 0) (l:=k / 2) om;have y:k % 2=0∨k % 2=1:=om
  rcases y with y|y
  .have e:k / 2*2=k:=om
   rw[e]at u;rw[u.1];simp only[madeCells,Array.getElem?_toList,Array.getElem?_map,Array.getElem?_range,hk,if_true,Option.map_some];grind
  have e:k / 2*2+1=k:=om
  rw[e]at u;rw[u.2];simp only[madeCells,Array.getElem?_toList,Array.getElem?_map,Array.getElem?_range,hk,if_true,Option.map_some];grind
 rw[List.getElem?_eq_none (by simp[madeCells];omega),List.getElem?_eq_none (by rw[Zy];omega)]
open Go.RowKit Pl Go.Wk
variable {ls rs:List Row}{d:Nat}{r x:Row}
theorem Qvx(h:r.length=d): pmR (List.range d) r=r:=by
 apply List.ext_getElem
 repeat grind [pmR,List.getD,List.getElem?_eq_getElem]
theorem TriB.nil(w:World)(base:Nat){A:Option Addr}(hl:w.ownsRow base 219 2 (.slice A d d) d (Xb d (λ_=>.slice none 0 0) (λ_=>.slice none 0 0))): TriB w base A d (λ_=>.slice none 0 0) (λ_=>.slice none 0 0) (λ_=>[]) (λ_=>[]) :=
 ⟨hl,⟨λi hi=>Xj _ _ _ _,λi j g _ _ _ e=>by cases e⟩,⟨λi hi=>Xj _ _ _ _,λi j g _ _ _ e=>by cases e⟩⟩
theorem Jmp(l:Nat): (lvl rs l).length<=rs.length:=by
 rw[Ia];have:=Jxf (rs.map (List.take (l+1)));rw[List.length_map]at this;exact this
theorem Qzh: stp rs x<=x.length:=by
 unfold stp;split
 .exact(Jgg _ _).2
 exact Nat.zero_le _
theorem Qxg{w:World}{v vc:Value}(hrel:RelV w v d ls)(hlt:Lt [] ls)(hlen:∀ r∈ls,r.length=d)(hc:IntsV w vc (nz (List.range d)))(hd:d<=32)(hbig:ls.length<=65536):
  Ret Tryz.prog 112 [v,vc] w λu w'=>Ext w w'/\∃ t,u=.tuple #[t,.int .i64 0]/\(∃ A,t=.agg #[.slice A d d])/\Off (λk=>k<w.heap.size) w' (λx=>TriV x t d ls):=by
 obtain⟨C,cc,rfl,di,dh,cq⟩:=id hc;obtain⟨rv,rfl,bq⟩:=id hrel;obtain⟨ee,A0,c0,_,rfl,_⟩:=id bq;have bc:(nz (List.range d)).length=d:=by rw[Ju,List.length_range]
 rw[bc]at hc di dh cq ⊢;have d1:∀ {k:Nat},k<d->(List.range d).getD k 0=k:=fun {k} hk=>by simp[List.getD,hk]
 have bu:∀ {k:Nat},k<d->(Jp (nz (List.range d)))[k]?=some (.int .i64 (k:Int)):=fun {k} hk=>by
  have:=Qn (cs:=List.range d) (i:=k) (by rw[List.length_range];exact hk);rw[d1 hk]at this;exact this
 refine Jz Tryz.func112 Tryz.ntmps112 rfl kr rfl ?_;refine ρ ?_;refine bx ?_;intro w1 b1 ce ep e4;refine ρ ?_;refine alc Jws ?_;intro w2 b2 cd dl d0;have ca:=ce.trans cd;refine ρ ?_;refine Jl (fun (k:Nat)=>[(1,.slice C d cc),(2,.pointer (some ⟨b1,0,none⟩)),(4,.pointer (some ⟨b2,0,none⟩)),(15,.slice C d cc),(16,.int .i64 (d:Int)),(17,.int .i64 (k:Int))]) (λk w'=>Ext w2 w'/\k<=d) (λk=>d-k) 0 sB ⟨Ext.refl _,Nat.zero_le _⟩ ?_;rintro k w3 ⟨av,hk⟩;have a7:=ca.trans av;have bm:=(e4.ext cd).ext av;refine ρ ?_;refine ci (λh=>?_) (λh=>?_)
 .have lk:k<d:=by have:=oT h;omega
  have b6:=cq.ext a7;refine ρ ?_;refine ix k b6 lk ?_;refine ρ ?_;refine ld (b6.cell (bu lk)) ?_;refine ρ ?_;refine kf 24 ?_ ?_
  .exact dF om
  refine ρ ?_;refine ldW bm ?_;refine ρ ?_;refine cl (Jqf (hrel.ext a7)) ?_;rintro u w4 ⟨rfl,aq⟩;refine ρ ?_;refine cf ?_ ?_
  .exact dF om
  refine ρ ?_;refine slh k ?_;refine ρ ?_;have dn:Rd w4 1 C k (Jp ((nz (List.range d)).take k)):=by
   have:=(b6.ext aq).take (m:=k) om;rw[Nat.mul_one]at this;have e:Jp ((nz (List.range d)).take k)=(Jp (nz (List.range d))).take k:=by simp[Jp]
   rw[e];exact this
  refine cl (Qlf (t:=(k:Int)) dn (by rw[List.length_take,bc];omega) om) ?_;rintro u w5 ⟨rfl,t,rfl,ht⟩;have de:t=false:=by
   cases t with
   | false=>rfl
   | true=>
    exfalso
    have hm:=ht.1 rfl;obtain⟨i,hi,e⟩:=List.getElem_of_mem hm;rw[List.length_take,bc]at hi;have:((nz (List.range d)).take k)[i]'(by rw[List.length_take,bc];exact hi)=(i:Int):=by simp[nz]
    rw[this]at e;omega
  refine ρ ?_;refine cf de ?_;refine ρ ?_;exact Jg (k+1) sO ⟨av.trans aq,om⟩ om
 clear h;have ck:ls.map (pmR (List.range d))=ls:=by
  conv=>rhs;rw[<-List.map_id ls]
  exact List.map_congr_left λr hr=>by rw[Qvx (hlen r hr)];rfl
 refine ρ ?_;refine ldW bm ?_;refine ρ ?_;refine cl (Jhk (cs:=List.range d) (hrel.ext a7) (hc.ext a7) hlen (λc hc=>List.mem_range.1 hc) (by rw[List.length_range];exact hd) hbig) ?_;rintro u w4 ⟨aq,pv,rfl,⟨pz,pB,pm,pd,rfl⟩,m,cj,ei,eh,dg⟩;have df:m=ls:=by
  have:=dg (.inr (by rw[ck];exact Ys hlt));rw[ck]at this;exact Uz this.1 hlt this.2
 subst df;rw[List.length_range]at cj;have c9:=a7.trans aq;refine ρ ?_;refine alc Yu ?_;intro w5 b5 dd dk e3;refine ρ ?_;refine stb e3 ?_ (Vy (z:=pz) (A:=pB) (n:=pm) (c:=pd));intro w6 e1 en dc;have ae:Ext w4 w6:=dc w4 dd dk;have ar:=c9.trans ae;have dw:RelV w6 (.agg #[.int .i64 pz,.slice pB pm pd]) d m:=cj.here.ext ae;refine ρ ?_;refine mkn EL d om (by unfold maxLen;omega) ?_;intro w7 A db bs hO;rw[made2]at bs;refine ρ ?_;refine bld (Qnj A d d _) ?_;refine ρ ?_;refine alc Jws ?_;intro w8 b8 da dj e0;refine ρ ?_;refine stb e0 ?_ (one1 (A:=A) (n:=d) (c:=d));intro w9 dz em d9;have au:Ext w7 w9:=d9 w7 da dj;have F:=db.trans au;have c8:=ar.trans F;have dm:=TriB.nil w9 w6.heap.size (Jb bs au);have cn:∀ j,(Value.slice A d d).ownBlock=some j->w6.heap.size<=j/\j<w7.heap.size:=by
  obtain⟨_,_,_,_,hf⟩:=Jy bs;exact hf
 refine ρ ?_;refine ldW (e1.ext F) ?_;refine ρ ?_;refine cl (Jyf (dw.ext F)) ?_;rintro u ap ⟨G,bb⟩;obtain⟨ps,R,rc,cm,rfl,e9,e8,dt,dq⟩:=bb;have ef:ps.length=m.length:=by rw[cm,List.length_map]
 generalize hn:ps.length=n at *
 have ay:∀ i,m.getD i []=(ps.getD i z0).2:=λi=>by rw[cm];exact Jkf
 have bo:=c8.trans G;obtain⟨Ar,ba⟩:∃ Ar:Nat->Prop,Ar=λj=>j<w9.heap.size∨ap.heap.size<=j:=⟨_,rfl⟩;have du:Off Ar ap (λu=>Rd u 1 R n (ps.map (·.1))):=dt.mono λj Z ax=>by rw[ba]at ax;omega
 have bv:∀ p∈ps,Off Ar ap (λu=>RowV u p.1 p.2):=λp hp=>(dq p hp).mono λj Z ax=>by rw[ba]at ax;omega
 have a2:=dz.ext G;have cz:=(((((d0.ext av).ext aq).ext ae).ext F).ext G);obtain⟨M,hM⟩:∃ M:Nat->Prop,M=λj=>w6.heap.size<=j/\Ar j/\j≠b8:=⟨_,rfl⟩;have bw:∀ j,M j->Ar j:=λj Z=>by rw[hM]at Z;exact Z.2.1
 have b7:¬ M b8:=λe=>by rw[hM]at e;exact e.2.2 rfl
 have cu:¬ M b2:=λe=>by
  rw[hM]at e;have h1:=d0.lt;have h2:=av.size;have h3:=aq.size;have h4:=ae.size;omega
 refine ρ ?_;refine Zk (fun (k:Nat) (vv fv:Nat->Value)=>[(4,.pointer (some ⟨b2,0,none⟩)),(10,.pointer (some ⟨b8,0,none⟩)),(11,if k=0 then .slice none 0 0 else(ps.getD (k-1) z0).1),(53,.slice R n rc),(54,.int .i64 (n:Int)),(55,.int .i64 (k:Int))])
  (λk vv fv w'=>k<=n/\(∃ fs,TriB w' w6.heap.size A d vv fv (lvl (m.take k)) fs/\(∀ l,l<d->(fs l).length=(lvl (m.take k) l).length)/\∀ l,l+1<d->Fst (m.take k) l (fs l))/\GrN M ap w'/\∀ j,Zm A d vv fv j->M j) (λk _ _=>n-k) 0 (λ_=>.slice none 0 0) (λ_=>.slice none 0 0) sB
  ⟨Nat.zero_le _,⟨λ_=>[],(dm.ext G).congr (λl O=>rfl) (λl O=>rfl),λl O=>rfl,λl O=>Fst.nil l⟩,GrN.refl _ _,λj Z=>?_⟩ ?_
 .rcases Z with e|⟨l,_,e|e⟩
  .have:=cn j e;rw[hM];refine⟨this.1,by rw[ba];exact .inl (nM this.2 au.size),λe2=>?_⟩;subst e2;omega
  .cases e
  cases e
 rintro k vv fv a3 ⟨hk,⟨fs,c4,b4,am⟩,a1,a9⟩;have a6:GrN Ar ap a3:=a1.mono λj _ Z=>bw j Z;refine ρ ?_;refine ci (λh=>?_) (λh=>?_)
 .have lk:k<n:=by have:=oT h;omega
  have c7:k<m.length:=om
  clear h;have bl:=du a3 a6;have cr:RowV a3 (ps.getD k z0).1 (m.getD k []):=by rw[ay];exact bv _ (Vz hn lk) a3 a6
  have cb:(m.getD k []).length=d:=hlen _ (getD_mem' [] m c7);have cw:∃ y,RowV a3 (if k=0 then .slice none 0 0 else(ps.getD (k-1) z0).1) y/\(y=[]∨y.length=(m.getD k []).length)/\shr y (m.getD k [])=stp (m.take k) (m.getD k []):=by
   by_cases e:k=0
   .subst e;rw[if_pos rfl];exact⟨[],RowV.nil _ _ _,.inl rfl,by rw[Jvl];rfl⟩
   rw[if_neg e];have d5:k-1<n:=om
   refine⟨m.getD (k-1) [],by rw[ay];exact bv _ (Vz hn d5) a3 a6,.inr (by rw[cb];exact hlen _ (getD_mem' [] m om)),?_⟩;have e2:(m.take k).getLast?=some (m.getD (k-1) []):=by
    rw[List.getLast?_eq_getElem?,List.length_take,Nat.min_eq_left om,List.getElem?_take,if_pos om,Ql [] m om,List.getElem?_eq_getElem om]
   unfold stp;rw[e2]
  obtain⟨y,d8,d7,d6⟩:=cw;have aw:m.take (k+1)=m.take k++[m.getD k []]:=Xu [] c7;have ai:Lt [] (m.take k++[m.getD k []]):=by rw[<-aw];exact List.Pairwise.sublist (List.take_sublist _ _) hlt
  have a4:∀ r∈m.take k++[m.getD k []],r.length=d:=by rw[<-aw];exactλr hr=>hlen r (List.mem_of_mem_take hr)
  refine ρ ?_;refine ix k bl lk ?_;refine ρ ?_;refine ld (Ij bl hn lk) ?_;refine ρ ?_;refine drN (λ_=>False) 4 [(0,0),(0,1),(0,2),(0,3),(1,4),(2,5)] kr ?_;have aa:Ext a3 a3.drew:=(Ext.refl a3).drew;have bt:=a1.trans (GrN.ext aa);have an:=Ja a2 bt b7;refine ρn ?_;refine Yw (cs:=[.slice A d d]) (λw' hg j u hu=>(Ja an hg (λe=>e)).at hu) ?_;refine ρn ?_;refine nop ?_;refine cl (Qxd (d8.ext aa) (cr.ext aa) d7) ?_;rintro u ao ⟨rfl,bg⟩;refine ρ ?_;refine Qg (GrN.ext bg) ?_;rw[d6];have ah:=aa.trans bg;have be:=c4.ext ah;have D:=a1.trans (GrN.ext ah);have bp:Off (Zm A d vv fv) ao (λu=>RowV u (ps.getD k z0).1 (m.getD k [])):=λu hu=>by
   rw[ay];exact bv _ (Vz hn lk) u ((D.mono λj _ Z=>bw j Z).trans (hu.mono λj _ Z=>bw j (a9 j Z)))
  refine Xm ?_;refine cl (Qxk (s:=stp (m.take k) (m.getD k [])) be bp cb hd (by have:=Qzh (rs:=m.take k) (x:=m.getD k []);omega) ?_ ?_) ?_
  .have h1:=F.size;have h2:=G.size;have h3:=D.size;omega
  .intro l O;have h1:=Jmp (rs:=m.take k) l;rw[List.length_take]at h1;have h2:=b4 l O;omega
  rintro u c5 ⟨d2,ac,e7,b3,cv⟩;refine ρ ?_;refine Qa (k+1) d2 ac (by repeat' (first|exact Sub.nil|refine Sub.cons (by first|rfl|(refine congrArg (λz=>some (Value.int .i64 z)) ?_;omega)|(rw[if_neg (Nat.succ_ne_zero k)];rfl)) ?_)) ⟨om,⟨_,e7.congr (vs':=lvl (m.take (k+1))) (λl O=>?_) (λl O=>rfl),λl O=>?_,λl O=>?_⟩,D.trans (b3.mono λj _ Z=>a9 j Z),λj Z=>?_⟩ om
  .rw[aw,Jmn ai a4 O];by_cases e:stp (m.take k) (m.getD k [])<=l
   .rw[if_pos e,if_neg om]
   rw[if_neg e,if_pos om]
  .rw[aw,Jmn ai a4 O];by_cases e:stp (m.take k) (m.getD k [])<=l
   .rw[if_pos e,if_neg (show¬ l+1<=stp (m.take k) (m.getD k []) by omega),List.length_append,List.length_append,b4 l O];rfl
   rw[if_neg e,if_pos om];exact b4 l O
  .rw[aw];by_cases e:stp (m.take k) (m.getD k [])<=l
   .rw[if_pos e,if_pos O,Ia];exact(am l O).more ai a4 e
   rw[if_neg e];exact(am l O).keep ai a4 om
  rcases cv j Z with h'|h'
  .exact a9 j h'
  rw[hM];have h1:=F.size;have h2:=G.size;have h3:=D.size;have h4:=a2.lt;exact⟨om,by rw[ba];exact .inr om,om⟩
 have ek:k=n:=by have:=oF h;omega
 subst ek;rw[List.take_of_length_le om]at c4 b4 am;have an:=Ja a2 a1 b7;refine ρ ?_;refine ld (an.at (i:=0) rfl) ?_;refine ρ ?_;refine Qd (fun (k:Nat) (fv:Nat->Value)=>[(4,.pointer (some ⟨b2,0,none⟩)),(10,.pointer (some ⟨b8,0,none⟩)),(69,.int .i64 (d:Int)),(70,.int .i64 (k:Int))])
  (λq ac w'=>q<=d/\TriB w' w6.heap.size A d vv ac (lvl m) (λl=>if l<q then fs l++[if l+1<d then(lvl m (l+1)).length else 0] else fs l)/\GrN M ap w'/\∀ j,Zm A d vv ac j->M j) (λq _=>d-q) 0 fv sB
  ⟨Nat.zero_le _,c4.congr (λl O=>rfl) (λl O=>by rw[if_neg om]),a1,a9⟩ ?_
 clear an a9 a6 a1;rintro q ac ao ⟨hq,be,D,ak⟩;refine ρ ?_;refine ci (λh=>?_) (λh=>?_)
 .have lq:q<d:=by have:=oT h;omega
  clear h;have ea:=b4 q lq;have eo:=Jmp (rs:=m) q;obtain⟨own,a8⟩:∃ own,own=(ac q).ownBlock:=⟨_,rfl⟩;have br:∀ j,own=some j->M j:=λj ej=>ak j (.inr ⟨q,lq,.inr (by rw[<-a8];exact ej)⟩);refine ρ ?_;refine drN (one own) 4 [(0,0),(0,1),(0,2),(0,3),(0,4),(0,5),(0,6),(0,7),(0,8),(0,9),(0,10),(0,11),(1,12),(1,13),(1,14),(0,15),(0,16),(2,17)] kr ?_;have aa:Ext ao ao.drew:=(Ext.refl ao).drew;have J:=be.ext aa;have a5:=D.trans (GrN.ext aa);have b9:=Ja a2 a5 b7;have nb:¬ one own b8:=λe=>b7 (br b8 e);have d3:¬ one own (adr A (q*2)).block:=by
   obtain⟨ad,e,_⟩:=J.rd.isome om om;subst e;simp only[adr,Option.getD_some,Yg];intro h';exact Iv J.lev (J.fst.own q lq) rfl rfl (by rw[<-a8];exact h')
  refine ρn ?_;refine nld (Qf (b9.at (i:=0) rfl) nb) ?_;refine ρn ?_;refine nld (Qf (b9.at (i:=0) rfl) nb) ?_;refine ρn ?_;refine Vt 2 q J.rd lq ?_;refine ρn ?_;refine nld (Qf (J.f1 lq) (by rw[Yg];exact d3)) ?_;refine ρn ?_;refine Yw (cs:=[.slice A d d]) (λw' hg j u hu=>(Ja b9 hg nb).at hu) ?_;refine ρn ?_;refine nop ?_;refine cl (Jvd (l:=q+1) (li:=(q:Int)+1) J.rd (λl O=>by obtain⟨B,c,e,_⟩:=J.vform O;exact⟨B,c,e⟩) om hd) ?_;rintro u c5 ⟨rfl,af⟩;refine ρ ?_;refine Qg (GrN.ext af) ?_;obtain⟨nn,ch⟩:∃ nn:Nat,nn=if q+1<d then(lvl m (q+1)).length else 0:=⟨_,rfl⟩
  rw[<-ch];refine nop ?_;refine bsl (bs1Int' (nn:Int)) ?_;intro ed es bf eb co;refine ρ ?_;refine Qg (GrN.ext bf) ?_;have U:=af.trans bf;have bd:=J.ext U;have bi:=bd.fst.own q lq;rw[if_neg (show¬ q<q by omega)]at bi;refine nop ?_;refine apb (base:=w6.heap.size) EI bi (co.rd (n:=1) rfl) (λu hu=>by rw[List.mem_singleton.1 hu];rfl) (by unfold maxLen;omega) om ?_ ?_
  .have h1:=F.size;have h2:=G.size;have h3:=a5.size;have h4:=U.size;omega
  intro c6 ec bh aj bj;refine ρ ?_;refine Qg (GrN.by aj λj ej=>by rw[<-a8]at ej;exact ej) ?_;have er:Jp (nz (fs q))++[.int .i64 (nn:Int)]=Jp (nz (fs q++[nn])):=by simp[Jp,nz]
  have el:(fs q).length+1=(fs q++[nn]).length:=by simp
  rw[er,el]at bh;obtain⟨c1,c2,c3,e6,cp⟩:=bd.setF lq bh aj bj;have e5:=Zq bd.lev (bd.fst.own q lq) aj rfl;refine ρn ?_;refine Vt 2 q (Rd.own e5) lq ?_;refine ρn ?_;refine Xm ?_;refine sto c1 c2 ?_ (hv:=c3);refine ρ ?_;have dx:∀ g,c6.ownBlock=some g->M g:=λg eg=>by
   rcases bj g eg with h'|h'
   .exact br g (by rw[a8];exact h')
   rw[hM];have h1:=F.size;have h2:=G.size;have h3:=a5.size;have h4:=U.size;have h5:=a2.lt;exact⟨om,by rw[ba];exact .inr om,om⟩
  refine Qv (q+1) (upd ac q c6) sO ⟨om,e6.congr (λl O=>rfl) (λl O=>?_),?_,Jlp (M:=M) ak lq dx⟩ om
  .by_cases e:l=q
   .subst e;rw[Qw,if_pos (show l<l+1 by omega),ch]
   rw[Jm _ _ e];by_cases e2:l<q
   .rw[if_pos e2,if_pos (show l<q+1 by omega)]
   rw[if_neg e2,if_neg (show¬ l<q+1 by omega)]
  exact((a5.trans (GrN.ext U)).trans (GrN.by aj λj ej=>br j (by rw[a8];exact ej))).trans (GrN.by cp λj ej=>ak j (.inl ej))
 have eq:q=d:=by have:=oF h;omega
 subst eq;have cx:=Ja a2 D b7;have cy:=Ja cz D cu;refine ρ ?_;refine ldW cx ?_;refine ρ ?_;refine stb cy ?_ (one1 (A:=A) (n:=q) (c:=q));intro c5 bz b3 af;refine ρ ?_;have bn:Ext w ao:=D.old bo λj Z=>by rw[hM]at Z;exact nL ar.size Z.1
 refine Zz bz ⟨af w bn (nL ce.size dl),_,rfl,⟨A,rfl⟩,?_⟩;have cg:=be.off (N:=λj=>j<w.heap.size∨j=b2) (λl O=>?_) (λj Z ax=>?_)
 .refine(cg.grown b3 (λj ej=>.inr (by injection ej with ej;exact ej.symm))).mono λj _ Z=>.inl Z
 .rw[if_pos (show l<q by omega),if_pos O,Ia];exact(am l O).close
 have h1:=ak j Z;rcases ax with h'|h'
 .rw[hM]at h1;have:=ar.size;omega
 subst h';exact cu h1
end Go.Proofs.YtebiphhfkdbpfaaGreat
namespace Go.Wk
open Go.RowKit
variable {a:Act}{cs us:List Value}{g j m n o:Nat}{i x y:Operand}{p:Option Addr}{k:TK}{e t t2:TypeId}{u v:Value}{w:World}
section
variable {N:Nat->Prop} {P:Program} {n:Nat} {al:AL} {w:World} {Q:Exit->Act->World->Prop} {ops:Array Oper} {rest:List Oper} {drest:List (Nat×Oper)}
variable {d ty:Nat} {op:Op} {pos:String} {aft:Array Edge} {tt:TT}
theorem Jgt(hT:TOk P tt)(ht:tk tt t=some k)(hk:k.desc=.pointer e)(ha:Fr n al a)(hx:ev al x=some (.pointer p))(dst:Option Nat)(w:World):
  (execOp a.eval ⟨dst,.binOp .eql t x (.const (.pointer none)) t2,ty,pos,aft,none⟩).run P w=.ok (.value (.bool p.isNone)) w:=by
 have u:=Yl hT ht hk rfl;have h:∀ d:Nat,(Op.equalIn (d+1) t (.pointer p) (.pointer none)).run P w=.ok p.isNone w:=λd=>by cases p<;>simp[Op.equalIn,run_underlying u]
 have y:a.eval (.const (.pointer none))=.pointer none:=rfl;simp[execOp,ha.ev hx,y,eqGuard,binOp,Op.equal,Op.maxDepth,h 9999]
theorem Qkb(hT:TOk P tt)(ht:tk tt t=some k)(hk:k.desc=.pointer e)(ha:Fr n al a)(hx:ev al x=some (.pointer p))(dst:Option Nat)(w:World):
  (execOp a.eval ⟨dst,.binOp .neq t x (.const (.pointer none)) t2,ty,pos,aft,none⟩).run P w=.ok (.value (.bool (!p.isNone))) w:=by
 have u:=Yl hT ht hk rfl;have h:∀ d:Nat,(Op.equalIn (d+1) t (.pointer p) (.pointer none)).run P w=.ok p.isNone w:=λd=>by cases p<;>simp[Op.equalIn,run_underlying u]
 have y:a.eval (.const (.pointer none))=.pointer none:=rfl;simp[execOp,ha.ev hx,y,eqGuard,binOp,Op.equal,Op.maxDepth,h 9999]
theorem pnl[h:Tab P tt](kk:WL P n ops Q rest ((d,.bool p.isNone)::al) w)(ht:tk tt t=some k:=by rfl)(hk:k.desc=.pointer e:=by rfl)(hx:ev al x=some (.pointer p):=by rfl)(hd:Nat.blt d n=true:=by rfl):
  WL P n ops Q (⟨some d,.binOp .eql t x (.const (.pointer none)) t2,ty,pos,aft,none⟩::rest) al w:=wop hd (λa u=>Jgt h.ok ht hk u hx (some d) w) kk
theorem dpnl[h:Tab P tt](kk:WD P n ops Q drest ((d,.bool p.isNone)::al) w)(ht:tk tt t=some k:=by rfl)(hk:k.desc=.pointer e:=by rfl)(hx:ev al x=some (.pointer p):=by rfl)(hd:Nat.blt d n=true:=by rfl):
  WD P n ops Q ((0,⟨some d,.binOp .eql t x (.const (.pointer none)) t2,ty,pos,aft,none⟩)::drest) al w:=dy (λw' _ a u=>Jgt h.ok ht hk u hx (some d) w') hd kk
theorem dpnn[h:Tab P tt](kk:WD P n ops Q drest ((d,.bool (!p.isNone))::al) w)(ht:tk tt t=some k:=by rfl)(hk:k.desc=.pointer e:=by rfl)(hx:ev al x=some (.pointer p):=by rfl)(hd:Nat.blt d n=true:=by rfl):
  WD P n ops Q ((0,⟨some d,.binOp .neq t x (.const (.pointer none)) t2,ty,pos,aft,none⟩)::drest) al w:=dy (λw' _ a u=>Qkb h.ok ht hk u hx (some d) w') hd kk
theorem nixa[h:Tab P tt]{t e:Nat}{p:Addr}{kd:IntKind}{z:Int}(j:Nat)(hlt:j<m)(kk:WN N P n ops Q drest ((d,.pointer (some (p.add (j*k.esz))))::al) w)(ht:tk tt t=some k:=by rfl)(hk:k.desc=.array m e:=by rfl)(hx:ev al x=some (.pointer (some p)):=by rfl)(hi:ev al i=some (.int kd z):=by rfl)(hj:z=(j:Int):=by first|rfl|omega)(hd:Nat.blt d n=true:=by rfl): WN N P n ops Q ((0,⟨some d,.indexAddr t x i,ty,pos,aft,none⟩)::drest) al w :=
 ny_ (λw' _ a u=>Jgw h.ok j ht hk hlt u hx hi hj (some d) w') hd kk
theorem stB[h:Tab P tt]{t bt:Nat}{p:Addr}(hb:Blk w g bt cs)(ho:o+us.length<=cs.length)(h1:∀ u∈us,u.oneCell'=true)(kk:∀ w1,Blk w1 g bt (cs.take o++us++cs.drop (o+us.length))->w.grownBy w1 (some g)->WL P n ops Q rest al w1)(ht:tk tt t=some k:=by rfl)(hk:k.desc=.invalid:=by rfl)(hs:k.size=us.length:=by rfl)(hx:ev al x=some (.pointer (some p)):=by rfl)(hp:p=⟨g,o,none⟩:=by rfl)(hy:ev al y=some (.agg us.toArray):=by rfl):
  WL P n ops Q (⟨none,.store t x y,ty,pos,aft,none⟩::rest) al w:=by
 subst hp;have J:=Jjd w g (cs.take o++us++cs.drop (o+us.length)).toArray;have D:=run_storeCells_at (P:=P) g o bt us 0 cs.toArray w hb (by simpa using ho) h1;simp only[Nat.add_zero]at D;refine Kn (λa G=>?_) (kk (w.setRow g (cs.take o++us++cs.drop (o+us.length)).toArray) (setRow_heap w g _ _ _ _ hb) J);have F:=Vj w (Jjz h.ok ht hk w).2;simp[execOp,G.ev hx,G.ev hy,Instr.storeAt,Instr.sureAddr,storeVar,Value.cells,F,hs,D]
end
theorem Qjp{P:Program}{al:AL}{Q Q':Exit->Act->World->Prop}{ops:Array Oper}{α β:Type}{d:Code}{l:List Oper}(fr:α->β->AL)(I:α->β->World->Prop)(h1:WL P n ops (Exit.then (λa w=>∃ x y,Fr n (fr x y) a/\I x y w) Q) l al w)(h2:∀ x y w,I x y w->WC P n d Q' (fr x y) w): WL P n ops (Exit.then (d.wp P Q') Q) l al w:=by
 intro a D;refine Jxr ?_ l a w (h1 a D);intro e J w' u;cases e with
 | normal=>obtain⟨x,y,G,F⟩:=u;exact h2 x y w' F J G
 | exit id=>exact u
 | goto l=>exact u
 | ret=>exact u
 | panic c=>exact u
 | outgrown=>exact u
theorem seg2(h:o+2<=cs.length): cs.take o++[u,v]++cs.drop (o+2)=(cs.set o u).set (o+1) v:=by
 apply List.ext_getElem?
 intro i;rw[List.getElem?_set,List.getElem?_set,List.append_assoc];grind
theorem Blk.sub(h:Blk w g t cs){i:Nat}(hv:cs[i+j]?=some v): w.cell? ((⟨g,i,none⟩:Addr).add j)=some v:=by rw[Za,h.cell];exact hv
end Go.Wk
namespace Go.Proofs.YtebiphhfkdbpfaaGreat
open Go.RowKit Pl Go.Wk
attribute [local irreducible] WC WL QX WD WDB WP WN
variable {d k:Nat}
def itC(A:Option Addr)(d L p e:Nat)(f h:Nat->Nat)(st:Int): List Value:=[.slice A d d,.int .i64 (L:Int),.int .i64 (p:Int),.int .i64 (e:Int)]++Xb 32 (λk=>.int .i64 (f k:Int)) (λk=>.int .i64 (h k:Int))++[.int .i64 st]
theorem Jkk(A:Option Addr)(d L p e:Nat)(f h:Nat->Nat)(st:Int): (itC A d L p e f h st).length=69:=by grind [itC,List.length_append,Zy]
theorem Jbg(A:Option Addr)(d L p e:Nat)(f h:Nat->Nat)(st:Int): (itC A d L p e f h st)[68]?=some (.int .i64 st):=by grind [itC,List.getElem?_append_right,List.length_append,Zy]
theorem Qfn(A:Option Addr)(d L p e:Nat)(f h:Nat->Nat)(st st':Int): (itC A d L p e f h st).set 68 (.int .i64 st')=itC A d L p e f h st':=by
 unfold itC;rw[List.set_append_right _ _ (by rw[List.length_append,Zy];simp),List.length_append,Zy];rfl
theorem Qfq(A:Option Addr)(d L p e:Nat)(f h:Nat->Nat)(st:Int)(hk:k<32): (itC A d L p e f h st)[4+k*2]?=some (.int .i64 (f k:Int))/\(itC A d L p e f h st)[4+k*2+1]?=some (.int .i64 (h k:Int)):=by grind [Ye,itC,List.getElem?_append_left,List.length_append,Zy,List.getElem?_append_right]
theorem Jfj(f:Nat->Nat)(k x:Nat): (λj=>Value.int .i64 ((upd f k x j:Nat):Int))=upd (λj=>Value.int .i64 (f j:Int)) k (.int .i64 (x:Int)):=by
 funext j;unfold upd;split<;>rfl
theorem Qfp(A:Option Addr)(d L p e:Nat)(f h:Nat->Nat)(st:Int)(hk:k<32)(x y:Nat): ((itC A d L p e f h st).set (4+k*2) (.int .i64 (x:Int))).set (4+k*2+1) (.int .i64 (y:Int))=itC A d L p e (upd f k x) (upd h k y) st:=by
 unfold itC;have D:∀(X:List Value),([Value.slice A d d,.int .i64 (L:Int),.int .i64 (p:Int),.int .i64 (e:Int)]++X).set (4+k*2) (.int .i64 (x:Int))=[Value.slice A d d,.int .i64 (L:Int),.int .i64 (p:Int),.int .i64 (e:Int)]++X.set (k*2) (.int .i64 (x:Int)):=λX=>by grind
 have u:∀(X:List Value),([Value.slice A d d,.int .i64 (L:Int),.int .i64 (p:Int),.int .i64 (e:Int)]++X).set (4+k*2+1) (.int .i64 (y:Int))=[Value.slice A d d,.int .i64 (L:Int),.int .i64 (p:Int),.int .i64 (e:Int)]++X.set (k*2+1) (.int .i64 (y:Int)):=λX=>by grind
 rw[List.set_append_left _ _ (by grind [List.length_append,Zy]),D,Jpn _ _ _ hk,List.set_append_left _ _ (by grind [List.length_append,Zy]),u,Jpm _ _ _ hk,Jfj,Jfj]
abbrev ItB(w:World)(g:Nat)(A:Option Addr)(d L p e:Nat)(f h:Nat->Nat)(st:Int): Prop:=Blk w g 224 (itC A d L p e f h st)
def TriA(w:World)(A:Option Addr)(d:Nat)(rs:List Row): Prop:=∃(vv fv:Nat->Value) (fs:Nat->List Nat),Rd w 2 A d (Xb d vv fv)/\(∀ l,l<d->∃ B c,vv l=.slice B (lvl rs l).length c/\RdR w B (lvl rs l)) /\
 (∀ l,l<d->∃ B c,fv l=.slice B (fs l).length c/\Rd w 1 B (fs l).length (Jp (nz (fs l))))/\∀ l,l+1<d->Chl rs l (fs l)
theorem TriV.a{w:World}{A:Option Addr}{rs:List Row}(h:TriV w (.agg #[.slice A d d]) d rs): TriA w A d rs:=by
 obtain⟨D,vv,fv,fs,u,y⟩:=h;injection u with u
 have:Value.slice A d d=.slice D d d:=by simpa using u
 injection this with u
 subst u;exact⟨vv,fv,fs,y⟩
theorem TriA.ext{w w':World}{A:Option Addr}{d:Nat}{rs:List Row}(h:TriA w A d rs)(hx:Ext w w'): TriA w' A d rs:=by
 obtain⟨vv,fv,fs,D,G,F,y⟩:=h;refine⟨vv,fv,fs,D.ext hx,λl u=>?_,λl u=>?_,y⟩;repeat grind [Rd.ext]
section
variable {w:World} {g:Nat} {A:Option Addr} {d L p e:Nat} {f h:Nat->Nat} {st:Int}
theorem Ic(hB:ItB w g A d L p e f h st): Ret Tryz.prog 168 [.pointer (some ⟨g,0,none⟩)] w λu w'=>u=.bool (decide (0<L/\p<e))/\Ext w w':=by
 refine Jz Tryz.func168 Tryz.ntmps168 rfl kr rfl ?_;refine ρ ?_;refine dr [(0,0),(0,1),(0,2),(0,3),(0,4),(0,5),(0,6),(0,7),(0,8),(0,9),(0,10),(0,11),(0,12),(0,13),(0,14),(0,15),(0,16),(0,17),(0,18),(0,19),(0,20),(0,21),(0,22)] kr ?_;have D:Ext w w.drew:=(Ext.refl w).drew;have y:=hB.ext D;refine ρd ?_;refine dpnn ?_;refine ρd ?_;refine dld (y.at (i:=1) rfl) ?_;refine ρd ?_;refine dki 12 (λF=>?_) (λF=>?_)
 .have G:0<L:=by have:=oT F;omega
  refine ρd ?_;refine dld (y.at (i:=2) rfl) ?_;refine ρd ?_;refine dld (y.at (i:=3) rfl) ?_;refine ρd ?_;refine ρ ?_;refine Jq ⟨?_,D⟩;congr 1
  grind
 have G:¬ 0<L:=by have:=oF F;omega
 refine ρd ?_;refine ρ ?_;refine Jq ⟨?_,D⟩;grind
end
end Go.Proofs.YtebiphhfkdbpfaaGreat
