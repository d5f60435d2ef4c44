/- Part 10 of the proof: Of, Cpt, Cpt2. -/
import Derived.Test.YtefpailelagbkaaGreatDoorC09
import Derived.Laws.CopyRow
set_option linter.unusedVariables false
set_option maxRecDepth 100000
set_option maxHeartbeats 40000000
namespace Go.Proofs.YtefpailelagbkaaGreatDoor
open Go.RowKit Pl Go.Wk
attribute [local irreducible] WC WL QX WD WDB WP
def RowX(w:World)(N:Nat->Prop)(v:Value)(r:List V): Prop:=∃ A c,v=.slice A r.length c/\r.length<=c/\r.length<=1100000/\RdR w A r/\(r≠[]->∀ ad,A=some ad->¬ N ad.block)
def one(g:Option Nat)(k:Nat): Prop:=g=some k
theorem RowX.v{w:World}{N:Nat->Prop}{v:Value}{r:List V}(h:RowX w N v r): RowV w v r:=by
 obtain ⟨A,c,u,o,j,i,_⟩:=h;exact ⟨A,c,u,o,j,i⟩
theorem RowX.ext{w w':World}{N:Nat->Prop}{v:Value}{r:List V}(h:RowX w N v r)(hx:Ext w w'): RowX w' N v r:=by
 obtain ⟨A,c,C,u,o,j,i⟩:=h;exact ⟨A,c,C,u,o,j.ext hx,i⟩
theorem RowX.mono{w:World}{N N':Nat->Prop}{v:Value}{r:List V}(h:RowX w N v r)(hN:∀ k,k<w.heap.size->N' k->N k): RowX w N' v r:=by
 obtain ⟨A,c,G,C,u,j,o⟩:=h;refine ⟨A,c,G,C,u,j,λh0 U e hn=>o h0 U e (hN _ ?_ hn)⟩;obtain ⟨O,i,J⟩:=Rd.isome j (List.length_pos_iff.2 h0) om;rw [e]at i;injection i with i;subst i;exact J
theorem RowX.grown{w w':World}{N:Nat->Prop}{g:Option Nat}{v:Value}{r:List V}(h:RowX w N v r)(hg:w.grownBy w' g)(hN:∀ k,g=some k->N k): RowX w' N v r:=by
 obtain ⟨A,c,C,u,o,j,i⟩:=h;refine ⟨A,c,C,u,o,?_,i⟩;by_cases h0:r=[]
 .subst h0;exact Rd.nil
 .exact Rd.grown j hg (λJ e G=>i h0 J e (hN _ G))
theorem RowX.nil(w:World)(N:Nat->Prop): RowX w N (.slice none 0 0) []:=⟨none,0,rfl,by simp,by simp,Rd.nil,λh=>absurd rfl h⟩
def RowsV(w:World)(v:Value)(ls:List (List V)): Prop:=∃ (ps:List Pr) (A:Option Addr) (c:Nat),ls=ps.map (·.2)/\v=.slice A ps.length c/\ps.length<=c/\ps.length<=1100000/\Rd w 1 A ps.length (ps.map (·.1))/\∀ p∈ps,RowV w p.1 p.2
theorem RowsV.ext{w w':World}{v:Value}{ls:List (List V)}(h:RowsV w v ls)(hx:Ext w w'): RowsV w' v ls:=by
 obtain ⟨ps,A,c,J,G,C,u,o,j⟩:=h;exact ⟨ps,A,c,J,G,C,u,o.ext hx,λp i=>(j p i).ext hx⟩
theorem RowV.one{w:World}{v:Value}{r:List V}(h:RowV w v r): v.oneCell'=true:=by obtain ⟨A,c,rfl,_⟩:=h;rfl
theorem Jvq{v:Value}{r:List V}{w:World}(h:RowV w v r)(N:Nat->Prop)(hg:∀ k,N k->k<w.heap.size):
  Ret Tryz.prog 68 [v] w λv' w'=>RowX w' N v' r/\Ext w w':=by
 obtain ⟨A,c,rfl,O,h3,J⟩:=h;refine Jjc Tryz.func68 Tryz.ntmps68 rfl kr rfl ?_;refine ρ ?_;refine Xql ?_;refine ρ ?_;refine ci (λh=>?_) (λh=>?_)
 .have hA:A=none:=by simpa using h
  subst hA;have hn:r.length=0:=by
   rcases Nat.eq_zero_or_pos r.length with h0|h0
   .exact h0
   .obtain ⟨U,O,_⟩:=J.isome h0 om;cases O
  obtain rfl:=List.eq_nil_of_length_eq_zero hn;refine ρ ?_;exact Jjq ⟨RowX.nil w N,Ext.refl w⟩
 .refine ρ ?_;refine bsl Jng ?_;intro w1 b j G C;refine ρ ?_;refine apo j EV (C.own (n:=0) G rfl (Nat.zero_le _)) (J.ext j) (Jhc r) (by unfold maxLen;omega) om ?_;intro v2 w2 i u _ _;obtain ⟨A2,c2,rfl,o,Z⟩:=Jjd i;refine ρ ?_;rw [Nat.zero_add]at i o ⊢;refine Jjq ⟨⟨A2,c2,rfl,o,h3,Rd.own i,λ_ U e=>?_⟩,u⟩;subst e;intro e2;have h4:=hg _ e2;have h5:=(Z U.block rfl).1;omega
theorem Pr.rep(n:Nat): (List.replicate n ((.slice none 0 0,[]):Pr)).map (·.1)=List.replicate n (.slice none 0 0):=by simp
def Srt(ds:List Bool)(ls:List (List V)): Prop:=ls.Pairwise λa b=>Jxg a b ds<=0
theorem Qtg{ds:List Bool}{ps:List Pr}(h:SOn z0 (fP ds) ps 0 ps.length): Srt ds (ps.map (·.2)):=by
 unfold Srt;rw [List.pairwise_map,List.pairwise_iff_getElem];intro i j hi u o;have:=h i j (Nat.zero_le _) o u;rw [Jjh z0 ps hi,Jjh z0 ps u]at this;exact this
end Go.Proofs.YtefpailelagbkaaGreatDoor
namespace Go.Proofs.YtefpailelagbkaaGreatDoor
open Pl
abbrev Row:= List V
def Lt(ds:List Bool)(ls:List Row): Prop:=ls.Pairwise λa b=>Jxg a b ds<0
def IsSet(ds:List Bool)(ls m:List Row): Prop:=Lt ds m/\∀ x,x∈m↔x∈ls
theorem Qvw(ds:List Bool)(a:Row): ¬ Jxg a a ds<0:=by rw [Jxp];omega
theorem Xxt{ds:List Bool}{a b:Row}(h:Jxg a b ds<0): ¬ Jxg b a ds<0:=by rw [Jnc a b];omega
theorem Jyz{ds:List Bool}: ∀ {l m:List Row},Lt ds l->Lt ds m->(∀ x,x∈l↔x∈m)->l=m
 | [],[],_,_,_=>rfl
 | [],b::m,_,_,h=>absurd ((h b).2 (mC ..)) (by simp)
 | a::l,[],_,_,h=>absurd ((h a).1 (mC ..)) (by simp)
 | a::l,b::m,h1,h2,h=>by
  have p1:=List.pairwise_cons.1 h1;have p2:=List.pairwise_cons.1 h2;have hab:a=b:=by
   rcases List.mem_cons.1 ((h a).1 (mC ..)) with e|e
   .exact e
   .rcases List.mem_cons.1 ((h b).2 (mC ..)) with e2|e2
    .exact e2.symm
    .exact absurd (p1.1 _ e2) (Xxt (p2.1 _ e))
  subst hab;congr 1
  refine Jyz p1.2 p2.2 λx=>?_;have hx:=h x;constructor
  .intro hm;rcases List.mem_cons.1 (hx.1 (List.mem_cons_of_mem _ hm)) with e|e
   .subst e;exact absurd (p1.1 _ hm) (Qvw ds x)
   .exact e
  .intro hm;rcases List.mem_cons.1 (hx.2 (List.mem_cons_of_mem _ hm)) with e|e
   .subst e;exact absurd (p2.1 _ hm) (Qvw ds x)
   .exact e
def ddS(out:List Row)(x:Row): List Row:=if out.getLast?=some x then out else out++[x]
def ddF(l:List Row): List Row:=l.foldl ddS []
theorem Jsz(l:List Row)(x:Row): ddF (l++[x])=ddS (ddF l) x:=by simp [ddF,List.foldl_append]
theorem Qyl(out:List Row)(x:Row): (ddS out x).getLast?=some x:=by
 unfold ddS;split
 .assumption
 .simp
theorem getLast_mem'{l:List Row}{x:Row}(h:l.getLast?=some x): x∈l:=by
 rw [List.getLast?_eq_some_iff]at h;obtain ⟨i,rfl⟩:=h;simp
theorem Qkk{ds:List Bool}: ∀ (l out:List Row),Lt ds out->(∀ a∈out,∀ b∈l,Jxg a b ds<=0)->Srt ds l->Lt ds (l.foldl ddS out)/\∀ x,x∈l.foldl ddS out↔(x∈out∨x∈l)
 | [],out,h,_,_=>⟨h,λx=>by simp⟩
 | y::l,out,h,hle,hs=>by
  have p:=List.pairwise_cons.1 hs;simp only [List.foldl_cons];by_cases e:out.getLast?=some y
  .have hy:=getLast_mem' e;have e1:ddS out y=out:=by unfold ddS;rw [if_pos e]
   rw [e1];obtain ⟨k1,k2⟩:=Qkk l out h (λa ha b hb=>hle a ha b (List.mem_cons_of_mem _ hb)) p.2;refine ⟨k1,λx=>(k2 x).trans ?_⟩;constructor
   .rintro (h'|h')
    .exact .inl h'
    .exact .inr (List.mem_cons_of_mem _ h')
   .rintro (h'|h')
    .exact .inl h'
    .rcases List.mem_cons.1 h' with rfl|h'
     .exact .inl hy
     .exact .inr h'
  .have e1:ddS out y=out++[y]:=by unfold ddS;rw [if_neg e]
   rw [e1];have hlt:∀ a∈out,Jxg a y ds<0:=by
    intro a ha;have h1:=hle a ha y (mC ..);rcases Int.lt_or_eq_of_le h1 with h2|h2
    .exact h2
    .exfalso
     have:=Jvp _ _ _ h2;subst this
     -- a is in out,and everything in out is below a;so a is the last
     obtain ⟨z,hz⟩:∃ z,out.getLast?=some z:=by
      cases hq:out.getLast? with
      | none=>rw [List.getLast?_eq_none_iff]at hq;rw [hq]at ha;cases ha
      | some z=>exact ⟨z,rfl⟩
     rw [List.getLast?_eq_some_iff]at hz;obtain ⟨ys,rfl⟩:=hz;rcases List.mem_append.1 ha with h3|h3
     .have h4:=(List.pairwise_append.1 h).2.2 _ h3 z (by simp);have h5:=hle z (by simp) a (mC ..);exact absurd ((Jtd ds).lt_le h4 h5) (Qvw ds a)
     .rw [List.mem_singleton.1 h3]at e;simp at e
   obtain ⟨k1,k2⟩:=Qkk l (out++[y]) (List.pairwise_append.2 ⟨h,List.pairwise_singleton _ _,λa ha b hb=>by rw [List.mem_singleton.1 hb];exact hlt a ha⟩) (λa ha b hb=>by
    rcases List.mem_append.1 ha with h'|h'
    .exact hle a h' b (List.mem_cons_of_mem _ hb)
    .rw [List.mem_singleton.1 h'];exact p.1 b hb) p.2
   refine ⟨k1,λx=>(k2 x).trans ?_⟩;rw [List.mem_append,List.mem_singleton,List.mem_cons,or_assoc]
theorem Xjb: ∀ (l out:List Row),(l.foldl ddS out).length<=out.length+l.length
 | [],out=>by simp
 | y::l,out=>by
  simp only [List.foldl_cons];have:=Xjb l (ddS out y);have h2:(ddS out y).length<=out.length+1:=by unfold ddS;split<;>simp
  simp only [List.length_cons];omega
theorem Jmt(l:List Row): (ddF l).length<=l.length:=by have:=Xjb l [];simpa [ddF] using this
theorem Qmg{ds:List Bool}{l:List Row}(h:Srt ds l): IsSet ds l (ddF l):=by
 obtain ⟨o,j⟩:=Qkk l [] List.Pairwise.nil (λa i=>by cases i) h;exact ⟨o,λx=>(j x).trans (by simp)⟩
theorem Qym{l:List Row}{k:Nat}(hk:k<l.length): ddF (l.take (k+1))=if k≠0/\l.getD (k-1) []=l.getD k [] then ddF (l.take k) else ddF (l.take k)++[l.getD k []]:=by
 rw [List.take_succ_eq_append_getElem hk,Jsz,<-Jjh [] l hk];unfold ddS;by_cases h0:k=0
 .subst h0;rw [if_neg (by simp [ddF]),if_neg (by simp)]
 .have i:k-1<l.length:=om
  have e:ddF (l.take k)=ddS (ddF (l.take (k-1))) (l.getD (k-1) []):=by
   have:=List.take_succ_eq_append_getElem i;rw [show k-1+1=k by omega]at this;rw [this,Jsz,Jjh [] l i]
  rw [e,Qyl];by_cases h1:l.getD (k-1) []=l.getD k []
  .rw [if_pos (by rw [h1]),if_pos ⟨h0,h1⟩]
  .rw [if_neg (by simpa using h1),if_neg (λh=>h1 h.2)]
def cnt(ds:List Bool)(l:List Row)(r:Row): Nat:=(l.filter λx=>decide (Jxg x r ds<0)).length
theorem Qmj(ds:List Bool)(l:List Row)(r:Row): cnt ds l r<=l.length:=List.length_filter_le _ _
theorem Lt.at{ds:List Bool}{l:List Row}(h:Lt ds l){i j:Nat}(hij:i<j)(hj:j<l.length): Jxg (l.getD i []) (l.getD j []) ds<0:=by
 have:=List.pairwise_iff_getElem.1 h i j om hj hij;rw [Jjh [] l hj,Jjh [] l om];exact this
theorem Qyp{ds:List Bool}{l:List Row}{r:Row}{k:Nat}(hk:k<=l.length)(hlo:∀ i,i<k->Jxg (l.getD i []) r ds<0)(hhi:∀ i,k<=i->i<l.length->¬ Jxg (l.getD i []) r ds<0): cnt ds l r=k:=by
 unfold cnt;have e:l=l.take k++l.drop k:=(List.take_append_drop k l).symm;rw [e,List.filter_append,List.length_append];have C:(l.take k).filter (λx=>decide (Jxg x r ds<0))=l.take k:=by
  rw [List.filter_eq_self];intro x o;obtain ⟨i,hi,rfl⟩:=List.getElem_of_mem o;have j:i<k:=by simp at hi;omega
  have:=hlo i j;rw [Jjh [] l om]at this;simpa using this
 have u:(l.drop k).filter (λx=>decide (Jxg x r ds<0))=[]:=by
  rw [List.filter_eq_nil_iff];intro x o;obtain ⟨i,hi,rfl⟩:=List.getElem_of_mem o;have j:k+i<l.length:=by simp at hi;omega
  have:=hhi (k+i) om j;rw [Jjh [] l j]at this;simpa using this
 rw [C,u];simp;omega
theorem Xqw{ds:List Bool}{l:List Row}(h:Lt ds l){r:Row}{k:Nat}(hk:k<=l.length)(hlo:k=0∨Jxg (l.getD (k-1) []) r ds<0)(hhi:k=l.length∨¬ Jxg (l.getD k []) r ds<0):
  cnt ds l r=k/\(r∈l↔k<l.length/\l.getD k []=r):=by
 have lo:∀ i,i<k->Jxg (l.getD i []) r ds<0:=λi hi=>by
  rcases hlo with h0|h0
  .omega
  .by_cases e:i=k-1
   .rw [e];exact h0
   .exact (Jtd ds).lt_trans (h.at (i:=i) (j:=k-1) om om) h0
 have hi:∀ i,k<=i->i<l.length->¬ Jxg (l.getD i []) r ds<0:=λi o G=>by
  rcases hhi with h0|h0
  .omega
  .by_cases e:i=k
   .rw [e];exact h0
   .exact λU=>h0 ((Jtd ds).lt_trans (h.at (i:=k) (j:=i) om G) U)
 refine ⟨Qyp hk lo hi,λJ=>?_,λ⟨o,G⟩=>?_⟩
 .obtain ⟨j,C,u⟩:=List.getElem_of_mem J;rw [<-Jjh [] l C]at u;have O:k<=j:=by
   rcases Nat.lt_or_ge j k with o|o
   .exact absurd (u ▸ lo j o) (Qvw ds r)
   .exact o
  have:j=k:=by
   rcases Nat.lt_or_ge k j with o|o
   .exact absurd (u ▸ h.at o C) (hi k (Nat.le_refl _) om)
   .omega
  subst this;exact ⟨C,u⟩
 .rw [<-G];exact getD_mem' [] l o
def Jpk(ds:List Bool)(l:List Row)(r:Row): List Row:=if r∈l then l else l.take (cnt ds l r)++r::l.drop (cnt ds l r)
theorem Xqx{ds:List Bool}{l ls:List Row}{r:Row}(h:IsSet ds ls l): IsSet ds (ls++[r]) (Jpk ds l r):=by
 unfold Jpk;split
 .rename_i hm;refine ⟨h.1,λx=>?_⟩;rw [List.mem_append,List.mem_singleton,<-h.2 x];exact ⟨.inl,λu=>u.elim id λe=>e ▸ hm⟩
 .rename_i hm;have a1:=Qmj ds l r
  -- what is below the place is smaller,what is above is greater
  have Z:∃ k,cnt ds l r=k/\k<=l.length/\(∀ i,i<k->Jxg (l.getD i []) r ds<0)/\(∀ i,k<=i->i<l.length->¬ Jxg (l.getD i []) r ds<0):=by
   have ex:∀ n,n<=l.length->∃ k,k<=n/\(∀ i,i<k->Jxg (l.getD i []) r ds<0)/\(k=n∨¬ Jxg (l.getD k []) r ds<0):=by
    intro n;induction n with
    | zero=>exact λ_=>⟨0,Nat.le_refl _,λi hi=>om,.inl rfl⟩
    | succ n ih=>
     intro hn;obtain ⟨k,k1,G,o⟩:=ih om;rcases o with o|o
     .subst o;by_cases h0:Jxg (l.getD k []) r ds<0
      .exact ⟨k+1,Nat.le_refl _,λi hi=>by
        by_cases e:i=k
        .rw [e];exact h0
        .exact G i om,.inl rfl⟩
      .exact ⟨k,om,G,.inr h0⟩
     .exact ⟨k,om,G,.inr o⟩
   obtain ⟨k,k1,G,o⟩:=ex l.length (Nat.le_refl _);have hi:∀ i,k<=i->i<l.length->¬ Jxg (l.getD i []) r ds<0:=λi h1 h2=>by
    rcases o with o|o
    .omega
    .by_cases e:i=k
     .rw [e];exact o
     .exact λh3=>o ((Jtd ds).lt_trans (h.1.at (i:=k) (j:=i) om h2) h3)
   exact ⟨k,Qyp k1 G hi,k1,G,hi⟩
  obtain ⟨k,hk,k1,G,o⟩:=Z;rw [hk];have J:=h.1;refine ⟨?_,λx=>?_⟩
  .unfold Lt at J ⊢;rw [List.pairwise_append];refine ⟨J.sublist (List.take_sublist _ _),List.pairwise_cons.2 ⟨λb U=>?_,J.sublist (List.drop_sublist _ _)⟩,λa ha b U=>?_⟩
   .obtain ⟨i,hi,rfl⟩:=List.getElem_of_mem U;have C:k+i<l.length:=by simp at hi;omega
    have:=o (k+i) om C;rw [Jjh [] l C]at this;rw [List.getElem_drop];rcases (Jtd ds).tot l[k+i] r with e|e|e
    .exact absurd e this
    .exact absurd (e ▸ List.getElem_mem C) hm
    .exact e
   .obtain ⟨i,hi,rfl⟩:=List.getElem_of_mem ha;have C:i<k:=by simp at hi;omega
    have h1:=G i C;rw [Jjh [] l om]at h1;rw [List.getElem_take];rcases List.mem_cons.1 U with rfl|U
    .exact h1
    .obtain ⟨j,hj,rfl⟩:=List.getElem_of_mem U;have O:k+j<l.length:=by simp at hj;omega
     rw [List.getElem_drop];have:=h.1.at (i:=i) (j:=k+j) om O;rw [Jjh [] l O,Jjh [] l om]at this;exact this
  .rw [List.mem_append,List.mem_cons,List.mem_append,List.mem_singleton,<-h.2 x];have e:x∈l↔x∈l.take k∨x∈l.drop k:=by
    conv=>lhs;rw [<-List.take_append_drop k l]
    exact List.mem_append
   rw [e];constructor
   .rintro (u|u|u)
    .exact .inl (.inl u)
    .exact .inr u
    .exact .inl (.inr u)
   .rintro ((u|u)|u)
    .exact .inl u
    .exact .inr (.inr u)
    .exact .inr (.inl u)
open Go.RowKit Pl Go.Wk
attribute [local irreducible] WC WL QX WD WDB WP
theorem Qyx(v:Value)(w:World)(A:Option Addr)(n c:Nat)(hv:v=.slice A n c): (Instr.buildSlice 35 1 #[(0,v)]).run Tryz.prog w=.ok (.slice (some ⟨w.heap.size,0,none⟩) 1 1) (w.alloc (.cells [v].toArray 40)):=by
 subst hv;kernel_rfl
theorem Jpq{ps:List Pr}{i:Nat}: (ps.map (·.2)).getD i []=(ps.getD i z0).2:=by
 simp only [List.getD,List.getElem?_map];cases ps[i]?<;>rfl
def own(base:Nat)(v:Value)(k:Nat): Prop:=k<base∨v.ownBlock=some k
def OwnR(w:World)(base:Nat)(v:Value)(ls:List Row): Prop:=∃ ps:List Pr,ls=ps.map (·.2)/\w.ownsRow base 40 1 v ps.length (ps.map (·.1))/\∀ p∈ps,RowX w (own base v) p.1 p.2
theorem OwnR.nil(w:World)(base:Nat): OwnR w base (.slice none 0 0) []:=⟨[],rfl,Jxj _ _ _ _,λp i=>by cases i⟩
theorem OwnR.ext{w w':World}{base:Nat}{v:Value}{ls:List Row}(h:OwnR w base v ls)(hx:Ext w w'): OwnR w' base v ls:=by
 obtain ⟨ps,u,o,j⟩:=h;exact ⟨ps,u,Jjb o hx,λp i=>(j p i).ext hx⟩
theorem OwnR.rows{w:World}{base:Nat}{v:Value}{ls:List Row}(h:OwnR w base v ls)(hm:ls.length<=1100000): RowsV w v ls:=by
 obtain ⟨ps,rfl,i,u⟩:=h;obtain ⟨A,c,rfl,o,_⟩:=Jjd i;exact ⟨ps,A,c,rfl,rfl,o,by simpa using hm,Rd.own i,λp j=>(u p j).v⟩
theorem OwnR.lt{w:World}{base:Nat}{v:Value}{ls:List Row}(h:OwnR w base v ls): ∀ k,v.ownBlock=some k->base<=k/\k<w.heap.size:=by
 obtain ⟨ps,rfl,j,u⟩:=h;obtain ⟨A,c,rfl,o,i⟩:=Jjd j;exact i
theorem appR{P:Program}{n:Nat}{al:AL}{w:World}{Q:Exit->Act->World->Prop}{ops:Array Oper}{rest:List Oper}{d ty:Nat}{pos:String}{aft:Array Edge}{a:World}(hxa:Ext a w){x y:Operand}{v:Value}{ls:List Row}{b:Nat}{vr:Value}{r:Row}(hE:ElT P 35 40 1 24 (.slice none 0 0))(ho:OwnR w a.heap.size v ls)(hb:Blk w b 40 [vr])(hr:RowX w (own a.heap.size v) vr r)(hm:ls.length<=1100000)(kk:∀ v' w',OwnR w' a.heap.size v' (ls++[r])->Ext a w'->w.grownBy w' v.ownBlock->WL P n ops Q rest ((d,v')::al) w')(hx:ev al x=some v:=by rfl)(hy:ev al y=some (.slice (some ⟨b,0,none⟩) 1 1):=by rfl)(hd:Nat.blt d n=true:=by rfl):
  WL P n ops Q (⟨some d,.call { callee:=.builtin .append,args:=#[x,y],argTypes:=#[35,35] },ty,pos,aft,none⟩::rest) al w:=by
 obtain ⟨ps,rfl,h2,h3⟩:=ho;have j:vr.oneCell'=true:=hr.v.one;refine apo hxa hE h2 hb.one (λu Z=>by rw [List.mem_singleton.1 Z];exact j) (by unfold maxLen;simp at hm;omega) (by simp at hm;omega) ?_ hx hy hd;intro v' w' J C o O;have i:∀ (p:Pr),RowX w (own a.heap.size v) p.1 p.2->RowX w' (own a.heap.size v') p.1 p.2:=λp G=>by
  have h1:=G.mono (N':=λk=>own a.heap.size v k∨own a.heap.size v' k) (λk U h=>by
   rcases h with h|h|h
   .exact h
   .exact .inl h
   .rcases O k h with h4|h4
    .exact .inr h4
    .omega)
  obtain ⟨A,c,e1,e2,e3,e4,e5⟩:=h1.grown o (λk U=>.inl (.inr U));exact ⟨A,c,e1,e2,e3,e4,λh0 ad e hn=>e5 h0 ad e (.inr hn)⟩
 refine kk v' w' ⟨ps++[(vr,r)],by simp,?_,λp G=>?_⟩ C o
 .rw [List.length_append,List.map_append];exact J
 .rcases List.mem_append.1 G with h'|h'
  .exact i p (h3 p h')
  .rw [List.mem_singleton.1 h'];exact i (vr,r) hr
theorem RowsV.parts{w:World}{v:Value}{ls:List Row}(h:RowsV w v ls): ∃ A c,v=.slice A ls.length c/\ls.length<=c/\ls.length<=1100000/\∃ cs:List Value,Rd w 1 A ls.length cs/\∀ i,i<ls.length->∃ u,cs[i]?=some u/\RowV w u (ls.getD i []):=by
 obtain ⟨ps,A,c,rfl,rfl,J,G,C,o⟩:=h;refine ⟨A,c,by simp,by simpa using J,by simpa using G,ps.map (·.1),by simpa using C,λi hi=>?_⟩
 have j:i<ps.length:=by simpa using hi
 exact ⟨_,Jll j,by rw [Jpq];exact o _ (getD_mem' z0 ps j)⟩
open Go.RowKit Pl Go.Wk
theorem Qjt{w:World}{base:Nat}{A:Option Addr}{n c:Nat}{fid:FuncId}{first cap:Array Value}{ps:List Pr}{ds:List Bool}(hD:Dat w base (.slice A n c) ps)(hn:ps.length=n)(hC:CF w (Value.slice A n c).ownBlock fid first cap ps ds)(h12:n<=12){lim:Int}:
  Ret Tryz.prog 150 [.slice A n c,.int .i64 0,.int .i64 (n:Int),.int .i64 lim,.func (.func fid) first cap] w λv w'=>∃ ps',DP w w' base A n c ps ps'/\SOn z0 (fP ds) ps' 0 n:=by
 refine Jjc Tryz.func150 Tryz.ntmps150 rfl kr rfl ?_;refine ρ ?_;refine Jqq (fun (_:Unit)=>[(0,.slice A n c),(1,.int .i64 0),(2,.int .i64 (n:Int)),(3,.int .i64 lim),(4,.func (.func fid) first cap)]) (λ_ w'=>w'=w) (λ_=>0) () sB rfl ?_;rintro _ w' rfl;refine ρ ?_;refine ct ?_ ?_
 .exact decide_eq_true om
 refine ρ ?_;refine cl (Jdj (a:=0) (ai:=0) (bi:=(n:Int)) hD hn rfl rfl (Nat.le_refl _) om om hC.pack) ?_;rintro v G ⟨i,C,u,o,j⟩;refine ρ ?_;exact Xkg ⟨i,(DP.start hD hn).ins C u j,o⟩
theorem Qjf{w:World}{base:Nat}{A:Option Addr}{n c:Nat}{fid:FuncId}{first cap:Array Value}{ps:List Pr}{ds:List Bool}(hD:Dat w base (.slice A n c) ps)(hn:ps.length=n)(hmx:n<=1100000)(hC:CF w (Value.slice A n c).ownBlock fid first cap ps ds):
  Ret Tryz.prog 118 [.slice A n c,.func (.func fid) first cap] w λv w'=>∃ ps',DP w w' base A n c ps ps'/\(n<=12->SOn z0 (fP ds) ps' 0 n):=by
 refine Jjc Tryz.func118 Tryz.ntmps118 rfl kr rfl ?_;refine ρ ?_;refine kv 10 (u:=.int .u64 (n:Int)) (congrArg (Value.int .u64) (Qnx om)) ?_;refine cl (Jnj n om w) ?_;rintro v w' ⟨rfl,rfl⟩;refine ρ ?_;have o:Jkp n<=48:=Jfq om;by_cases h12:n<=12
 .refine cl (Qjt hD hn hC h12) ?_;rintro v i ⟨q,H,j⟩;refine ρ ?_;exact Qls ⟨q,H,λ_=>j⟩
 .refine cl (Xxf n (a:=0) (b:=n) (ai:=0) (bi:=(n:Int)) (lim:=(Jkp n:Int)) hD hn om hC rfl rfl om (Nat.le_refl _) om om) ?_;rintro v i ⟨q,H⟩;refine ρ ?_;exact Qls ⟨q,H,λh=>absurd h h12⟩
theorem Qgk{α:Type}{z:α}{f:α->α->Int}(hf:PreC f){q:List α}{n:Nat}: SOn z f q 0 n↔∀ k,0<k->k<n->¬ f (q.getD k z) (q.getD (k-1) z)<0:=by
 constructor
 .intro h k h0 u o;have:=h (k-1) k om om u;have:=hf.anti (q.getD k z) (q.getD (k-1) z);omega
 .intro h i j _ G C;induction j with
  | zero=>omega
  | succ j ih=>
   have J:=h (j+1) om C;have O:=hf.anti (q.getD (j+1) z) (q.getD j z);simp only [Nat.add_sub_cancel]at J;by_cases e:i=j
   .subst e;omega
   .exact hf.trans _ _ _ (ih om om) om
theorem Qbz{w:World}{A:Option Addr}{n:Nat}{ps:List Pr}(hR:Rd w 1 A n (ps.map (·.1)))(hn:ps.length=n){i:Nat}(hi:i<n): w.cell? (adr A i)=some (ps.getD i z0).1:=hR.cell (Jll (hn.symm ▸ hi))
theorem Jkr{ps:List Pr}{n:Nat}(hn:ps.length=n){i:Nat}(hi:i<n): ps.getD i z0∈ps:=getD_mem' z0 ps (hn.symm ▸ hi)
theorem CF.none{w:World}{fid:FuncId}{first cap:Array Value}{ps:List Pr}{ds:List Bool}{row:Option Nat}(h:CF w row fid first cap ps ds){w':World}(hx:Ext w w'){p q:Pr}(hp:p∈ps)(hq:q∈ps):
  Ret Tryz.prog fid (first.toList++[p.1,q.1]++cap.toList) w' λr w''=>r=.int .i64 (fP ds p q)/\Ext w' w'':=h w' (Jqh hx _) p q hp hq
theorem Qqg{w:World}{A:Option Addr}{n c:Nat}{fid:FuncId}{first cap:Array Value}{row:Option Nat}{ps:List Pr}{ds:List Bool}(hR:Rd w 1 A n (ps.map (·.1)))(hn:ps.length=n)(hmx:n<=1100000)(hC:CF w row fid first cap ps ds):
  Ret Tryz.prog 116 [.slice A n c,.func (.func fid) first cap] w λv w'=>Ext w w'/\∃ t:Bool,v=.bool t/\(t=true↔SOn z0 (fP ds) ps 0 n):=by
 refine Jjc Tryz.func116 Tryz.ntmps116 rfl kr rfl ?_;refine ρ ?_;refine Jqq (fun (j:Nat)=>[(0,.slice A n c),(1,.func (.func fid) first cap),(5,.int .i64 ((j:Int)-1))]) (λj w'=>Ext w w'/\j<=n/\∀ k,j<=k->0<k->k<n->¬ fP ds (ps.getD k z0) (ps.getD (k-1) z0)<0) (λj=>j) n sO ⟨Ext.refl w,Nat.le_refl _,λk h1 _ h2=>om⟩ ?_;rintro j w1 ⟨U,hj,Z⟩;refine ρ ?_;refine ci (λh=>?_) (λh=>?_)
 .have h2:2<=j:=by have:=oT h;omega
  have G:j-1<n:=om
  have u:j-2<n:=om
  refine ρ ?_;refine dr [(0,0),(0,1),(0,2),(0,3),(0,4),(0,5),(0,6),(0,7),(0,8),(0,9),(1,10),(0,11)] kr ?_;have i:Ext w w1.drew:=U.drew;have o:=hR.ext i;refine ρd ?_;refine dix (j-1) o G ?_;refine ρd ?_;refine dld (Qbz o hn G) ?_;refine ρd ?_;refine dix (j-2) o u ?_;refine ρd ?_;refine dld (Qbz o hn u) ?_;refine ρd ?_;refine Qqv (hC.none i (Jkr hn G) (Jkr hn u)) ?_;rintro r w2 ⟨rfl,C⟩;refine ⟨C,?_⟩;refine ρd ?_;refine ρ ?_;refine ci (λh=>?_) (λh=>?_)
  .refine ρ ?_;refine Jjq ⟨i.trans C,false,rfl,⟨λe=>(by cases e),λe=>?_⟩⟩;have:=(Qgk (preP ds)).1 e (j-1) om G;exact absurd (oT h) this
  .refine ρ ?_;refine Jjv (j-1) sO ⟨i.trans C,om,λk O J k3=>?_⟩ om;by_cases e:k=j-1
   .subst e;exact oF h
   .exact Z k om J k3
 .refine ρ ?_;have h1:j<=1:=by have:=oF h;omega
  exact Jjq ⟨U,true,rfl,⟨λ_=>(Qgk (preP ds)).2 λk O J=>Z k om O J,λ_=>rfl⟩⟩
theorem Qhn{P:Program}{w:World}{t e base n c k bytes:Nat}{z:Value}{A:Option Addr}{xs:List Value}(hE:ElT P t e 1 bytes z)(hz1:z.cells = #[z])(hz2:z.oneCell'=true)(h:w.ownsRow base e 1 (.slice A n c) n xs)(hk:k<=n)(ty:TypeId):
  ∃ w',(Builtin.clear_ #[t] ty #[.slice (if c=k then A else A.map (·.add (k*1))) (n-k) (c-k)]).run P w=.ok (.tuple #[]) w'/\w'.ownsRow base e 1 (.slice A k c) k (xs.take k)/\w.grownBy w' (Value.slice A n c).ownBlock:=by
 obtain ⟨i,hi,Z,a1,a3⟩:=hE.info;obtain ⟨hl,U⟩:=h;have a2:xs.length=n:=om
 rcases Nat.eq_or_lt_of_le hk with e0|hlt
 .subst e0;refine ⟨w,?_,?_,Jqh (Ext.refl w) _⟩
  .rw [Nat.sub_self];generalize (if c=k then A else A.map (·.add (k*1)))=B
   cases B<;>simp [Builtin.clear_,run_underlying hE.sl]
  .rw [List.take_of_length_le om];exact ⟨hl,U⟩
 .rcases U with ⟨C,h0⟩|⟨g,cap,cur,C,hb,hg,hle,hmx,hcs,hcur⟩
  .omega
  .injection C with e1 e2 e3
   subst e1;subst e3;have O:¬ c=k:=om
   rw [if_neg O];have e4:(some (⟨g,0,none⟩:Addr)).map (·.add (k*1))=some ⟨g,k,none⟩:=by simp [Jzh]
   rw [e4];have o:=run_storeCells_at (P:=P) g k e (List.replicate (n-k) z) 0 cur w hg (by simp;omega) (λv C=>by rw [List.eq_of_mem_replicate C];exact hz2);refine ⟨w.setRow g (cur.toList.take (k+0)++List.replicate (n-k) z++cur.toList.drop (k+0+(List.replicate (n-k) z).length)).toArray,?_,?_,Jxv w g _⟩
   .have J:∃ m,n-k=m+1:=⟨n-k-1,om⟩;obtain ⟨m,hm⟩:=J;have u:(Builtin.zeroCells z.cells (n-k)).toList=List.replicate (n-k) z:=by
     rw [hz1];simp only [Builtin.zeroCells];apply List.ext_getElem
     .simp
     .intro j h1 h2;simp [Nat.mod_one]
    rw [hm]at o u ⊢;have G:(zeroValue e).run P w=.ok z w:=by simp [zeroValue,typeInfo,hi,Z]
    simp only [Nat.add_zero,List.length_replicate,List.append_assoc]at o ⊢;simp [Builtin.clear_,run_underlying hE.sl,G,u,o]
   .simp only [Nat.add_zero,List.length_replicate];refine ⟨by rw [List.length_take];omega,.inr ⟨g,c,_,rfl,hb,setRow_heap w g cur _ e _ hg,om,hmx,?_,?_⟩⟩
    .simp;omega
    .simp only [Nat.mul_one]at hcur ⊢;rw [List.append_assoc,List.take_append_of_le_length (by simp;omega),<-hcur];conv=>rhs;rw [List.take_take]
     rw [List.take_take,Nat.min_self,Nat.min_eq_left (Nat.le_of_lt hlt)]
end Go.Proofs.YtefpailelagbkaaGreatDoor
namespace Go.Wk
section
variable {P:Program} {n:Nat} {al:AL} {w:World} {Q:Exit->Act->World->Prop} {ops:Array Oper} {rest:List Oper}
variable {ty:Nat} {pos:String} {aft:Array Edge}
theorem clr{x:Operand}{t:Nat}{v:Value}{w':World}(h:∀ ty,(Builtin.clear_ #[t] ty #[v]).run P w=.ok (.tuple #[]) w')(k:WL P n ops Q rest al w')(hx:ev al x=some v:=by rfl):
  WL P n ops Q (⟨none,.call { callee:=.builtin .clear,args:=#[x],argTypes:=#[t] },ty,pos,aft,none⟩::rest) al w:=λa i=>
 wpList_plain rfl λK j=>by
  unfold Oper.wp;have e:(execOp a.eval ⟨none,.call { callee:=.builtin .clear,args:=#[x],argTypes:=#[t] },ty,pos,aft,none⟩).run P w=.ok (.value (.tuple #[])) w':=by
   simp [execOp,resolve,invoke,builtin,i.ev hx,h ty]
  rw [e,Oper.upon_value];exact j _ _ (k _ i)
end
end Go.Wk
namespace Go.Proofs.YtefpailelagbkaaGreatDoor
open Go.RowKit Pl Go.Wk
attribute [local irreducible] WC WL QX WD WDB WP
def EqF(w:World)(row:Option Nat)(fid:FuncId)(first cap:Array Value)(M:List Pr): Prop :=
 ∀ w',w.grownBy w' row->∀ p q,p∈M->q∈M->Ret Tryz.prog fid (first.toList++[p.1,q.1]++cap.toList) w' λr w''=>r=.bool (decide (p.2=q.2))/\Ext w' w''
theorem Qmh{l:List Row}(h:l.length<2): ddF l=l:=by
 match l with
 | []=>rfl
 | [a]=>rfl
 | _::_::_=>exact absurd h (by simp)
theorem Jjm{α:Type}(z:α){l:List α}{k:Nat}(h:k<l.length): l.take (k+1)=l.take k++[l.getD k z]:=by
 rw [List.take_add_one,List.getElem?_eq_getElem h,Jjh z l h];rfl
theorem Dat.take{w:World}{base:Nat}{A:Option Addr}{n c k:Nat}{q:List Pr}(hq:q.length=n)(h1:∀ p∈q,p.1.oneCell'=true)(hk:k<=n)(h:w.ownsRow base 40 1 (.slice A k c) k ((q.map (·.1)).take k)): Dat w base (.slice A k c) (q.take k):=by
 refine ⟨?_,λp i=>h1 p (List.mem_of_mem_take i)⟩;rw [List.length_take,hq,Nat.min_eq_left hk,List.map_take];exact h
theorem Qkp{w:World}{base:Nat}{A:Option Addr}{n c:Nat}{fid:FuncId}{first cap:Array Value}{ps:List Pr}(hD:Dat w base (.slice A n c) ps)(hn:ps.length=n)(hmx:n<=1100000)(hnc:n<=c)(hC:EqF w (Value.slice A n c).ownBlock fid first cap ps):
  Ret Tryz.prog 119 [.slice A n c,.func (.func fid) first cap] w λv w'=>∃ ps':List Pr,v=.slice A ps'.length c/\Dat w' base (.slice A ps'.length c) ps'/\ps'.map (·.2)=ddF (ps.map (·.2))/\(∀ p∈ps',p∈ps)/\w.grownBy w' (Value.slice A n c).ownBlock:=by
 refine Jjc Tryz.func119 Tryz.ntmps119 rfl kr rfl ?_;obtain ⟨ls,C⟩:∃ ls:List Row,ls=ps.map (·.2):=⟨_,rfl⟩
 have ar:ls.length=n:=by rw [C];simpa using hn
 have u:∀ i,ls.getD i []=(ps.getD i z0).2:=λi=>by rw [C];exact Jpq
 refine ρ ?_;refine ci (λh=>?_) (λh=>?_)
 .refine ρ ?_;refine Jjq ⟨ps,by rw [hn],by rw [hn];exact hD,?_,λp U=>U,Jqh (Ext.refl w) _⟩;rw [<-C,Qmh];have:=oT h;omega
 have h2:2<=n:=by have:=oF h;omega
 clear h;refine ρ ?_;refine Jqq (fun (j:Nat)=>[(0,.slice A n c),(1,.func (.func fid) first cap),(5,.int .i64 (j:Int))]) (λj w'=>Ext w w'/\1<=j/\j<=n/\ddF (ls.take j)=ls.take j) (λj=>n-j) 1 sB ⟨Ext.refl w,om,om,Qmh (by rw [List.length_take];omega)⟩ ?_;rintro j w1 ⟨hx,av,hj,hI⟩;refine ρ ?_;refine ci (λh=>?_) (λh=>?_);rotate_left
 .have e:j=n:=by have:=oF h;omega
  refine ρ ?_;refine Jjq ⟨ps,by rw [hn],by rw [hn];exact hD.ext hx,?_,λp U=>U,Jqh hx _⟩;rw [<-C];rw [e,List.take_of_length_le om]at hI;exact hI.symm
 have lj:j<n:=by have:=oT h;omega
 have a5:j-1<n:=om
 clear h;refine ρ ?_;refine dr [(0,0),(0,1),(0,2),(0,3),(0,4),(0,5),(0,6),(0,7),(0,8),(0,9),(1,10)] kr ?_;have a7:Ext w w1.drew:=hx.drew;have a2:=hD.ext a7;refine ρd ?_;refine dix j (a2.rd hn) lj ?_;refine ρd ?_;refine dld (a2.cell hn lj) ?_;refine ρd ?_;refine dix (j-1) (a2.rd hn) a5 ?_;refine ρd ?_;refine dld (a2.cell hn a5) ?_;refine ρd ?_;refine Qqv (hC _ (Jqh a7 _) (ps.getD j z0) (ps.getD (j-1) z0) (Jkr hn lj) (Jkr hn a5)) ?_;rintro r w2 ⟨rfl,ad⟩;refine ⟨ad,?_⟩;have a6:=a7.trans ad;refine ρd ?_;refine ρ ?_;have o:=Qym (l:=ls) (k:=j) om;rw [u,u]at o;refine ci (λh=>?_) (λh=>?_);rotate_left
 .have a8:=oF h;refine ρ ?_;refine Jjv (j+1) sO ⟨a6,om,om,?_⟩ om;rw [o,if_neg (λe=>a8 e.2.symm),hI,Jjm [] om,u]
 have aa:=oT h;clear h;rw [if_pos ⟨om,aa.symm⟩,hI]at o;have ap:=hD.ext a6;refine ρ ?_;refine sll j ?_;refine ρ ?_;refine Jzc (fun (k m:Nat) (q:List Pr)=>[(0,.slice A n c),(1,.func (.func fid) first cap),(5,.int .i64 (k:Int)),(6,.slice (if c=j then A else A.map (·.add (j*1))) (n-j) (c-j)),(7,.int .i64 ((m:Int)-(j:Int)))])
  (λk m q w'=>Dat w' base (.slice A n c) q/\q.length=n/\w.grownBy w' (Value.slice A n c).ownBlock/\j<m/\m<=n/\k<m/\(∀ i,k<=i->q.getD i z0=ps.getD i z0)/\(q.take k).map (·.2)=ddF (ls.take m)/\∀ p∈q,p∈ps) (λ_ m _=>n-m) j (j+1) ps sO
  ⟨ap,hn,Jqh a6 _,om,om,om,λ_ _=>rfl,by rw [List.map_take,<-C];exact o.symm,λp U=>U⟩ ?_
 rintro k m q w3 ⟨ab,hq,ah,au,hm,hk,Z,a9,G⟩;refine ρ ?_;refine ci (λh=>?_) (λh=>?_)
 .have ae:m<n:=by have:=oT h;omega
  have lm:m-j<n-j:=om
  have ak:m-j-1<n-j:=om
  clear h;refine ρ ?_;refine dr [(0,0),(0,1),(0,2),(0,3),(0,4),(0,5),(0,6),(0,7),(0,8),(0,9),(1,10),(0,11)] kr ?_;have ac:Ext w3 w3.drew:=(Ext.refl w3).drew;have aj:=ab.ext ac;have ag:=Jjw ah (Jqh ac _);have J:=(aj.rd hq).drop (k:=j) (c:=c) om hnc;have c1:((q.map (·.1)).drop (j*1))[m-j]?=some (ps.getD m z0).1:=by
   rw [List.getElem?_drop,show j*1+(m-j)=m by omega,Jll om,Z m om]
  have c2:((q.map (·.1)).drop (j*1))[m-j-1]?=some (ps.getD (m-1) z0).1:=by
   rw [List.getElem?_drop,show j*1+(m-j-1)=m-1 by omega,Jll om,Z (m-1) om]
  refine ρd ?_;refine dix (m-j) J lm ?_;refine ρd ?_;refine dld (J.cell c1) ?_;refine ρd ?_;refine dix (m-j-1) J ak ?_;refine ρd ?_;refine dld (J.cell c2) ?_;refine ρd ?_;refine Qqv (hC _ ag (ps.getD m z0) (ps.getD (m-1) z0) (Jkr hn ae) (Jkr hn om)) ?_;rintro r w7 ⟨rfl,O⟩;refine ⟨O,?_⟩;have a1:=aj.ext O;have af:=Jjw ag (Jqh O _);have ai:=J.ext O;refine ρd ?_;refine ρ ?_;have o:=Qym (l:=ls) (k:=m) om;rw [u,u]at o;refine ci (λh=>?_) (λh=>?_)
  .have a8:(ps.getD m z0).2≠(ps.getD (m-1) z0).2:=by simpa using h
   have lk:k<n:=om
   have aq:(q.take k).length=k:=by rw [List.length_take];omega
   refine ρ ?_;refine ix (m-j) ai lm ?_;refine ρ ?_;refine ld (ai.cell c1) ?_;refine ρ ?_;refine ix k (a1.rd hq) lk ?_;refine ρ ?_;obtain ⟨s1,s2,s3⟩:=a1.store hq lk (p:=ps.getD m z0) (hD.one om);refine sto (a1.cell hq lk) s1 ?_ (hv:=hD.one om);refine ρ ?_;refine Jqf (k+1) (m+1) (q.set k (ps.getD m z0)) sO ⟨s2,by simpa using hq,Jjw af s3,om,om,om,λi hi=>?_,?_,λp U=>?_⟩ om
   .rw [Jbj z0 _ _ _ _ om,if_neg om];exact Z i om
   .rw [o,if_neg (λe=>a8 e.2.symm),<-a9,Jjm z0 (by simp;omega),Jbj z0 _ _ _ _ om,if_pos rfl,List.take_set_of_le (Nat.le_refl _),List.map_append];rfl
   .rcases List.mem_or_eq_of_mem_set U with h'|h'
    .exact G p h'
    .rw [h'];exact Jkr hn ae
  .have aa:(ps.getD m z0).2=(ps.getD (m-1) z0).2:=by simpa using h
   refine ρ ?_;refine Jqf k (m+1) q sO ⟨a1,hq,af,om,om,om,Z,?_,G⟩ om;rw [o,if_pos ⟨om,aa.symm⟩,a9]
 .have e:m=n:=by have:=oF h;omega
  subst e;have a4:=ab.1;rw [hq]at a4;obtain ⟨w8,am,an,ao⟩:=Qhn (P:=Tryz.prog) (k:=k) ER rfl rfl a4 om 0;refine ρ ?_;refine sll k ?_;refine ρ ?_;refine clr (w':=w8) (λty=>am) ?_;refine ρ ?_;refine slh k ?_;refine ρ ?_;have a3:(q.take k).length=k:=by rw [List.length_take];omega
  refine Jjq ⟨q.take k,by rw [a3],by rw [a3];exact Dat.take hq ab.2 om an,?_,λp U=>G p (List.mem_of_mem_take U),Jjw ah ao⟩;rw [a9,List.take_of_length_le om,C]
end Go.Proofs.YtefpailelagbkaaGreatDoor
