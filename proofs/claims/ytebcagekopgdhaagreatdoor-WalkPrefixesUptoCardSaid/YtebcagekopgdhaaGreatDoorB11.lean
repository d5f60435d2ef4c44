/- Part 11. -/
import Derived.Test.YtebcagekopgdhaaGreatDoorB10
import Derived.Laws.CopyRow
set_option linter.unusedVariables false
set_option maxRecDepth 100000
set_option maxHeartbeats 40000000
namespace Go.Proofs.YtebcagekopgdhaaGreatDoor
open Go.RowKit Pl Go.Wk
attribute [local irreducible] WC WL QX WD WDB WP
def RowX(w:World)(N:Nat->Prop)(v:Value)(r:List V): Prop:=∃ A c,v=.slice A r.length c/\r.length<=c/\r.length<=1100000/\RdR w A r/\(r≠[]->∀ ad,A=some ad->¬ N ad.block)
def one(g:Option Nat)(k:Nat): Prop:=g=some k
theorem RowX.v{w:World}{N:Nat->Prop}{v:Value}{r:List V}(h:RowX w N v r): RowV w v r:=by
 obtain ⟨A,c,G,C,u,o,_⟩:=h;exact ⟨A,c,G,C,u,o⟩
theorem RowX.ext{w w':World}{N:Nat->Prop}{v:Value}{r:List V}(h:RowX w N v r)(hx:Ext w w'): RowX w' N v r:=by
 obtain ⟨A,c,J,G,C,u,o⟩:=h;exact ⟨A,c,J,G,C,u.ext hx,o⟩
theorem RowX.mono{w:World}{N N':Nat->Prop}{v:Value}{r:List V}(h:RowX w N v r)(hN:∀ k,k<w.heap.size->N' k->N k): RowX w N' v r:=by
 obtain ⟨A,c,O,J,G,u,C⟩:=h;refine ⟨A,c,O,J,G,u,λh0 ad e hn=>C h0 ad e (hN _ ?_ hn)⟩;obtain ⟨Z,o,U⟩:=Rd.isome u (List.length_pos_iff.2 h0) om;rw [e]at o;injection o with o;subst o;exact U
theorem RowX.grown{w w':World}{N:Nat->Prop}{g:Option Nat}{v:Value}{r:List V}(h:RowX w N v r)(hg:w.grownBy w' g)(hN:∀ k,g=some k->N k): RowX w' N v r:=by
 obtain ⟨A,c,J,G,C,u,o⟩:=h;refine ⟨A,c,J,G,C,?_,o⟩;by_cases h0:r=[]
 .subst h0;exact Rd.nil
 .exact Rd.grown u hg (λU e O=>o h0 U e (hN _ O))
theorem RowX.nil(w:World)(N:Nat->Prop): RowX w N (.slice none 0 0) []:=⟨none,0,rfl,by simp,by simp,Rd.nil,λh=>absurd rfl h⟩
def RowsV(w:World)(v:Value)(ls:List (List V)): Prop:=∃ (ps:List Pr) (A:Option Addr) (c:Nat),ls=ps.map (·.2)/\v=.slice A ps.length c/\ps.length<=c/\ps.length<=1100000/\Rd w 1 A ps.length (ps.map (·.1))/\∀ p∈ps,RowV w p.1 p.2
theorem RowsV.ext{w w':World}{v:Value}{ls:List (List V)}(h:RowsV w v ls)(hx:Ext w w'): RowsV w' v ls:=by
 obtain ⟨ps,A,c,U,O,J,G,C,u⟩:=h;exact ⟨ps,A,c,U,O,J,G,C.ext hx,λp o=>(u p o).ext hx⟩
theorem RowV.one{w:World}{v:Value}{r:List V}(h:RowV w v r): v.oneCell'=true:=by obtain ⟨A,c,rfl,_⟩:=h;rfl
theorem Jxd{v:Value}{r:List V}{w:World}(h:RowV w v r)(N:Nat->Prop)(hg:∀ k,N k->k<w.heap.size):
  Ret Tryz.prog 102 [v] w λv' w'=>RowX w' N v' r/\Ext w w':=by
 obtain ⟨A,c,rfl,Z,h3,U⟩:=h;refine Jz Tryz.func102 Tryz.ntmps102 rfl kr rfl ?_;refine ρ ?_;refine Iq ?_;refine ρ ?_;refine ci (λh=>?_) (λh=>?_)
 .have hA:A=none:=by simpa using h
  subst hA;have hn:r.length=0:=by
   rcases Nat.eq_zero_or_pos r.length with h0|h0
   .exact h0
   .obtain ⟨ad,Z,_⟩:=U.isome h0 om;cases Z
  obtain rfl:=List.eq_nil_of_length_eq_zero hn;refine ρ ?_;exact Jj ⟨RowX.nil w N,Ext.refl w⟩
 .refine ρ ?_;refine bsl Ir ?_;intro w1 b u O J;refine ρ ?_;refine apo u EV (J.own (n:=0) O rfl (Nat.zero_le _)) (U.ext u) (Jwg r) (by unfold maxLen;omega) om ?_;intro v2 w2 o G _ _;obtain ⟨A2,c2,rfl,C,hf⟩:=Jv o;refine ρ ?_;rw [Nat.zero_add]at o C ⊢;refine Jj ⟨⟨A2,c2,rfl,C,h3,Rd.own o,λ_ ad e=>?_⟩,G⟩;subst e;intro e2;have h4:=hg _ e2;have h5:=(hf ad.block rfl).1;omega
theorem Pr.rep(n:Nat): (List.replicate n ((.slice none 0 0,[]):Pr)).map (·.1)=List.replicate n (.slice none 0 0):=by simp
def Srt(ds:List Bool)(ls:List (List V)): Prop:=ls.Pairwise λa b=>Jw a b ds<=0
theorem Jlv{ds:List Bool}{ps:List Pr}(h:SOn z0 (fP ds) ps 0 ps.length): Srt ds (ps.map (·.2)):=by
 unfold Srt;rw [List.pairwise_map,List.pairwise_iff_getElem];intro i j hi u o;have:=h i j (Nat.zero_le _) o u;rw [Jp z0 ps hi,Jp z0 ps u]at this;exact this
end Go.Proofs.YtebcagekopgdhaaGreatDoor
namespace Go.Proofs.YtebcagekopgdhaaGreatDoor
open Pl
abbrev Row:= List V
def Lt(ds:List Bool)(ls:List Row): Prop:=ls.Pairwise λa b=>Jw a b ds<0
def IsSet(ds:List Bool)(ls m:List Row): Prop:=Lt ds m/\∀ x,x∈m↔x∈ls
theorem Jwz(ds:List Bool)(a:Row): ¬ Jw a a ds<0:=by rw [Vo];omega
theorem Qfh{ds:List Bool}{a b:Row}(h:Jw a b ds<0): ¬ Jw b a ds<0:=by rw [Jkc a b];omega
theorem Jjq{ds:List Bool}: ∀ {l m:List Row},Lt ds l->Lt ds m->(∀ x,x∈l↔x∈m)->l=m
 | [],[],_,_,_=>rfl
 | [],b::m,_,_,h=>absurd ((h b).2 (mC ..)) (by simp)
 | a::l,[],_,_,h=>absurd ((h a).1 (mC ..)) (by simp)
 | a::l,b::m,h1,h2,h=>by
  have p1:=List.pairwise_cons.1 h1;have p2:=List.pairwise_cons.1 h2;have hab:a=b:=by
   rcases List.mem_cons.1 ((h a).1 (mC ..)) with e|e
   .exact e
   .rcases List.mem_cons.1 ((h b).2 (mC ..)) with e2|e2
    .exact e2.symm
    .exact absurd (p1.1 _ e2) (Qfh (p2.1 _ e))
  subst hab;congr 1
  refine Jjq p1.2 p2.2 λx=>?_;have hx:=h x;constructor
  .intro hm;rcases List.mem_cons.1 (hx.1 (List.mem_cons_of_mem _ hm)) with e|e
   .subst e;exact absurd (p1.1 _ hm) (Jwz ds x)
   .exact e
  .intro hm;rcases List.mem_cons.1 (hx.2 (List.mem_cons_of_mem _ hm)) with e|e
   .subst e;exact absurd (p2.1 _ hm) (Jwz ds x)
   .exact e
def ddS(out:List Row)(x:Row): List Row:=if out.getLast?=some x then out else out++[x]
def ddF(l:List Row): List Row:=l.foldl ddS []
theorem Jff(l:List Row)(x:Row): ddF (l++[x])=ddS (ddF l) x:=by simp [ddF,List.foldl_append]
theorem Jtp(out:List Row)(x:Row): (ddS out x).getLast?=some x:=by
 unfold ddS;split
 .assumption
 .simp
theorem getLast_mem'{l:List Row}{x:Row}(h:l.getLast?=some x): x∈l:=by
 rw [List.getLast?_eq_some_iff]at h;obtain ⟨o,rfl⟩:=h;simp
theorem Jfd{ds:List Bool}: ∀ (l out:List Row),Lt ds out->(∀ a∈out,∀ b∈l,Jw a b ds<=0)->Srt ds l->Lt ds (l.foldl ddS out)/\∀ x,x∈l.foldl ddS out↔(x∈out∨x∈l)
 | [],out,h,_,_=>⟨h,λx=>by simp⟩
 | y::l,out,h,hle,hs=>by
  have p:=List.pairwise_cons.1 hs;simp only [List.foldl_cons];by_cases e:out.getLast?=some y
  .have hy:=getLast_mem' e;have e1:ddS out y=out:=by unfold ddS;rw [if_pos e]
   rw [e1];obtain ⟨k1,k2⟩:=Jfd l out h (λa ha b hb=>hle a ha b (List.mem_cons_of_mem _ hb)) p.2;refine ⟨k1,λx=>(k2 x).trans ?_⟩;constructor
   .rintro (h'|h')
    .exact .inl h'
    .exact .inr (List.mem_cons_of_mem _ h')
   .rintro (h'|h')
    .exact .inl h'
    .rcases List.mem_cons.1 h' with rfl|h'
     .exact .inl hy
     .exact .inr h'
  .have e1:ddS out y=out++[y]:=by unfold ddS;rw [if_neg e]
   rw [e1];have hlt:∀ a∈out,Jw a y ds<0:=by
    intro a ha;have h1:=hle a ha y (mC ..);rcases Int.lt_or_eq_of_le h1 with h2|h2
    .exact h2
    .exfalso
     have:=Jxc _ _ _ h2;subst this
     -- a is in out,and everything in out is below a;so a is the last
     obtain ⟨z,hz⟩:∃ z,out.getLast?=some z:=by
      cases hq:out.getLast? with
      | none=>rw [List.getLast?_eq_none_iff]at hq;rw [hq]at ha;cases ha
      | some z=>exact ⟨z,rfl⟩
     rw [List.getLast?_eq_some_iff]at hz;obtain ⟨ys,rfl⟩:=hz;rcases List.mem_append.1 ha with h3|h3
     .have h4:=(List.pairwise_append.1 h).2.2 _ h3 z (by simp);have h5:=hle z (by simp) a (mC ..);exact absurd ((Uo ds).lt_le h4 h5) (Jwz ds a)
     .rw [List.mem_singleton.1 h3]at e;simp at e
   obtain ⟨k1,k2⟩:=Jfd l (out++[y]) (List.pairwise_append.2 ⟨h,List.pairwise_singleton _ _,λa ha b hb=>by rw [List.mem_singleton.1 hb];exact hlt a ha⟩) (λa ha b hb=>by
    rcases List.mem_append.1 ha with h'|h'
    .exact hle a h' b (List.mem_cons_of_mem _ hb)
    .rw [List.mem_singleton.1 h'];exact p.1 b hb) p.2
   refine ⟨k1,λx=>(k2 x).trans ?_⟩;rw [List.mem_append,List.mem_singleton,List.mem_cons,or_assoc]
theorem Jtn: ∀ (l out:List Row),(l.foldl ddS out).length<=out.length+l.length
 | [],out=>by simp
 | y::l,out=>by
  simp only [List.foldl_cons];have:=Jtn l (ddS out y);have h2:(ddS out y).length<=out.length+1:=by unfold ddS;split<;>simp
  simp only [List.length_cons];omega
theorem Jzx(l:List Row): (ddF l).length<=l.length:=by have:=Jtn l [];simpa [ddF] using this
theorem Jtr{ds:List Bool}{l:List Row}(h:Srt ds l): IsSet ds l (ddF l):=by
 obtain ⟨C,u⟩:=Jfd l [] List.Pairwise.nil (λa o=>by cases o) h;exact ⟨C,λx=>(u x).trans (by simp)⟩
theorem Jtq{l:List Row}{k:Nat}(hk:k<l.length): ddF (l.take (k+1))=if k≠0/\l.getD (k-1) []=l.getD k [] then ddF (l.take k) else ddF (l.take k)++[l.getD k []]:=by
 rw [List.take_succ_eq_append_getElem hk,Jff,<-Jp [] l hk];unfold ddS;by_cases h0:k=0
 .subst h0;rw [if_neg (by simp [ddF]),if_neg (by simp)]
 .have o:k-1<l.length:=om
  have e:ddF (l.take k)=ddS (ddF (l.take (k-1))) (l.getD (k-1) []):=by
   have:=List.take_succ_eq_append_getElem o;rw [show k-1+1=k by omega]at this;rw [this,Jff,Jp [] l o]
  rw [e,Jtp];by_cases h1:l.getD (k-1) []=l.getD k []
  .rw [if_pos (by rw [h1]),if_pos ⟨h0,h1⟩]
  .rw [if_neg (by simpa using h1),if_neg (λh=>h1 h.2)]
def cnt(ds:List Bool)(l:List Row)(r:Row): Nat:=(l.filter λx=>decide (Jw x r ds<0)).length
theorem Jfk(ds:List Bool)(l:List Row)(r:Row): cnt ds l r<=l.length:=List.length_filter_le _ _
theorem Lt.at{ds:List Bool}{l:List Row}(h:Lt ds l){i j:Nat}(hij:i<j)(hj:j<l.length): Jw (l.getD i []) (l.getD j []) ds<0:=by
 have:=List.pairwise_iff_getElem.1 h i j om hj hij;rw [Jp [] l hj,Jp [] l om];exact this
theorem Qjb{ds:List Bool}{l:List Row}{r:Row}{k:Nat}(hk:k<=l.length)(hlo:∀ i,i<k->Jw (l.getD i []) r ds<0)(hhi:∀ i,k<=i->i<l.length->¬ Jw (l.getD i []) r ds<0): cnt ds l r=k:=by
 unfold cnt;have e:l=l.take k++l.drop k:=(List.take_append_drop k l).symm;rw [e,List.filter_append,List.length_append];have G:(l.take k).filter (λx=>decide (Jw x r ds<0))=l.take k:=by
  rw [List.filter_eq_self];intro x u;obtain ⟨i,hi,rfl⟩:=List.getElem_of_mem u;have o:i<k:=by simp at hi;omega
  have:=hlo i o;rw [Jp [] l om]at this;simpa using this
 have C:(l.drop k).filter (λx=>decide (Jw x r ds<0))=[]:=by
  rw [List.filter_eq_nil_iff];intro x u;obtain ⟨i,hi,rfl⟩:=List.getElem_of_mem u;have o:k+i<l.length:=by simp at hi;omega
  have:=hhi (k+i) om o;rw [Jp [] l o]at this;simpa using this
 rw [G,C];simp;omega
theorem Qyq{ds:List Bool}{l:List Row}(h:Lt ds l){r:Row}{k:Nat}(hk:k<=l.length)(hlo:k=0∨Jw (l.getD (k-1) []) r ds<0)(hhi:k=l.length∨¬ Jw (l.getD k []) r ds<0):
  cnt ds l r=k/\(r∈l↔k<l.length/\l.getD k []=r):=by
 have lo:∀ i,i<k->Jw (l.getD i []) r ds<0:=λi hi=>by
  rcases hlo with h0|h0
  .omega
  .by_cases e:i=k-1
   .rw [e];exact h0
   .exact (Uo ds).lt_trans (h.at (i:=i) (j:=k-1) om om) h0
 have hi:∀ i,k<=i->i<l.length->¬ Jw (l.getD i []) r ds<0:=λi o G=>by
  rcases hhi with h0|h0
  .omega
  .by_cases e:i=k
   .rw [e];exact h0
   .exact λU=>h0 ((Uo ds).lt_trans (h.at (i:=k) (j:=i) om G) U)
 refine ⟨Qjb hk lo hi,λJ=>?_,λ⟨o,G⟩=>?_⟩
 .obtain ⟨j,C,u⟩:=List.getElem_of_mem J;rw [<-Jp [] l C]at u;have O:k<=j:=by
   rcases Nat.lt_or_ge j k with o|o
   .exact absurd (u ▸ lo j o) (Jwz ds r)
   .exact o
  have:j=k:=by
   rcases Nat.lt_or_ge k j with o|o
   .exact absurd (u ▸ h.at o C) (hi k (Nat.le_refl _) om)
   .omega
  subst this;exact ⟨C,u⟩
 .rw [<-G];exact getD_mem' [] l o
def Zj(ds:List Bool)(l:List Row)(r:Row): List Row:=if r∈l then l else l.take (cnt ds l r)++r::l.drop (cnt ds l r)
theorem Qbc{ds:List Bool}{l ls:List Row}{r:Row}(h:IsSet ds ls l): IsSet ds (ls++[r]) (Zj ds l r):=by
 unfold Zj;split
 .rename_i hm;refine ⟨h.1,λx=>?_⟩;rw [List.mem_append,List.mem_singleton,<-h.2 x];exact ⟨.inl,λu=>u.elim id λe=>e ▸ hm⟩
 .rename_i hm;have a1:=Jfk ds l r
  -- what is below the place is smaller,what is above is greater
  have Z:∃ k,cnt ds l r=k/\k<=l.length/\(∀ i,i<k->Jw (l.getD i []) r ds<0)/\(∀ i,k<=i->i<l.length->¬ Jw (l.getD i []) r ds<0):=by
   have ex:∀ n,n<=l.length->∃ k,k<=n/\(∀ i,i<k->Jw (l.getD i []) r ds<0)/\(k=n∨¬ Jw (l.getD k []) r ds<0):=by
    intro n;induction n with
    | zero=>exact λ_=>⟨0,Nat.le_refl _,λi hi=>om,.inl rfl⟩
    | succ n ih=>
     intro hn;obtain ⟨k,k1,G,o⟩:=ih om;rcases o with o|o
     .subst o;by_cases h0:Jw (l.getD k []) r ds<0
      .exact ⟨k+1,Nat.le_refl _,λi hi=>by
        by_cases e:i=k
        .rw [e];exact h0
        .exact G i om,.inl rfl⟩
      .exact ⟨k,om,G,.inr h0⟩
     .exact ⟨k,om,G,.inr o⟩
   obtain ⟨k,k1,G,o⟩:=ex l.length (Nat.le_refl _);have hi:∀ i,k<=i->i<l.length->¬ Jw (l.getD i []) r ds<0:=λi h1 h2=>by
    rcases o with o|o
    .omega
    .by_cases e:i=k
     .rw [e];exact o
     .exact λh3=>o ((Uo ds).lt_trans (h.1.at (i:=k) (j:=i) om h2) h3)
   exact ⟨k,Qjb k1 G hi,k1,G,hi⟩
  obtain ⟨k,hk,k1,G,o⟩:=Z;rw [hk];have J:=h.1;refine ⟨?_,λx=>?_⟩
  .unfold Lt at J ⊢;rw [List.pairwise_append];refine ⟨J.sublist (List.take_sublist _ _),List.pairwise_cons.2 ⟨λb U=>?_,J.sublist (List.drop_sublist _ _)⟩,λa ha b U=>?_⟩
   .obtain ⟨i,hi,rfl⟩:=List.getElem_of_mem U;have C:k+i<l.length:=by simp at hi;omega
    have:=o (k+i) om C;rw [Jp [] l C]at this;rw [List.getElem_drop];rcases (Uo ds).tot l[k+i] r with e|e|e
    .exact absurd e this
    .exact absurd (e ▸ List.getElem_mem C) hm
    .exact e
   .obtain ⟨i,hi,rfl⟩:=List.getElem_of_mem ha;have C:i<k:=by simp at hi;omega
    have h1:=G i C;rw [Jp [] l om]at h1;rw [List.getElem_take];rcases List.mem_cons.1 U with rfl|U
    .exact h1
    .obtain ⟨j,hj,rfl⟩:=List.getElem_of_mem U;have O:k+j<l.length:=by simp at hj;omega
     rw [List.getElem_drop];have:=h.1.at (i:=i) (j:=k+j) om O;rw [Jp [] l O,Jp [] l om]at this;exact this
  .rw [List.mem_append,List.mem_cons,List.mem_append,List.mem_singleton,<-h.2 x];have e:x∈l↔x∈l.take k∨x∈l.drop k:=by
    conv=>lhs;rw [<-List.take_append_drop k l]
    exact List.mem_append
   rw [e];constructor
   .rintro (u|u|u)
    .exact .inl (.inl u)
    .exact .inr u
    .exact .inl (.inr u)
   .rintro ((u|u)|u)
    .exact .inl u
    .exact .inr (.inr u)
    .exact .inr (.inl u)
open Go.RowKit Pl Go.Wk
attribute [local irreducible] WC WL QX WD WDB WP
theorem Jvx(v:Value)(w:World)(A:Option Addr)(n c:Nat)(hv:v=.slice A n c): (Instr.buildSlice 54 1 #[(0,v)]).run Tryz.prog w=.ok (.slice (some ⟨w.heap.size,0,none⟩) 1 1) (w.alloc (.cells [v].toArray 37)):=by
 subst hv;kernel_rfl
theorem Jqn{ps:List Pr}{i:Nat}: (ps.map (·.2)).getD i []=(ps.getD i z0).2:=by
 simp only [List.getD,List.getElem?_map];cases ps[i]?<;>rfl
def own(base:Nat)(v:Value)(k:Nat): Prop:=k<base∨v.ownBlock=some k
def OwnR(w:World)(base:Nat)(v:Value)(ls:List Row): Prop:=∃ ps:List Pr,ls=ps.map (·.2)/\w.ownsRow base 37 1 v ps.length (ps.map (·.1))/\∀ p∈ps,RowX w (own base v) p.1 p.2
theorem OwnR.nil(w:World)(base:Nat): OwnR w base (.slice none 0 0) []:=⟨[],rfl,Xs _ _ _ _,λp o=>by cases o⟩
theorem OwnR.ext{w w':World}{base:Nat}{v:Value}{ls:List Row}(h:OwnR w base v ls)(hx:Ext w w'): OwnR w' base v ls:=by
 obtain ⟨ps,G,C,u⟩:=h;exact ⟨ps,G,Jk C hx,λp o=>(u p o).ext hx⟩
theorem OwnR.rows{w:World}{base:Nat}{v:Value}{ls:List Row}(h:OwnR w base v ls)(hm:ls.length<=1100000): RowsV w v ls:=by
 obtain ⟨ps,rfl,o,G⟩:=h;obtain ⟨A,c,rfl,C,_⟩:=Jv o;exact ⟨ps,A,c,rfl,rfl,C,by simpa using hm,Rd.own o,λp u=>(G p u).v⟩
theorem OwnR.lt{w:World}{base:Nat}{v:Value}{ls:List Row}(h:OwnR w base v ls): ∀ k,v.ownBlock=some k->base<=k/\k<w.heap.size:=by
 obtain ⟨ps,rfl,u,G⟩:=h;obtain ⟨A,c,rfl,C,o⟩:=Jv u;exact o
theorem appR{P:Program}{n:Nat}{al:AL}{w:World}{Q:Exit->Act->World->Prop}{ops:Array Oper}{rest:List Oper}{d ty:Nat}{pos:String}{aft:Array Edge}{a:World}(hxa:Ext a w){x y:Operand}{v:Value}{ls:List Row}{b:Nat}{vr:Value}{r:Row}(hE:ElT P 54 37 1 24 (.slice none 0 0))(ho:OwnR w a.heap.size v ls)(hb:Blk w b 37 [vr])(hr:RowX w (own a.heap.size v) vr r)(hm:ls.length<=1100000)(kk:∀ v' w',OwnR w' a.heap.size v' (ls++[r])->Ext a w'->w.grownBy w' v.ownBlock->WL P n ops Q rest ((d,v')::al) w')(hx:ev al x=some v:=by rfl)(hy:ev al y=some (.slice (some ⟨b,0,none⟩) 1 1):=by rfl)(hd:Nat.blt d n=true:=by rfl):
  WL P n ops Q (⟨some d,.call { callee:=.builtin .append,args:=#[x,y],argTypes:=#[54,54] },ty,pos,aft,none⟩::rest) al w:=by
 obtain ⟨ps,rfl,h2,h3⟩:=ho;have C:vr.oneCell'=true:=hr.v.one;refine apo hxa hE h2 hb.one (λu hu=>by rw [List.mem_singleton.1 hu];exact C) (by unfold maxLen;simp at hm;omega) (by simp at hm;omega) ?_ hx hy hd;intro v' w' U J G Z;have o:∀ (p:Pr),RowX w (own a.heap.size v) p.1 p.2->RowX w' (own a.heap.size v') p.1 p.2:=λp O=>by
  have h1:=O.mono (N':=λk=>own a.heap.size v k∨own a.heap.size v' k) (λk hk h=>by
   rcases h with h|h|h
   .exact h
   .exact .inl h
   .rcases Z k h with h4|h4
    .exact .inr h4
    .omega)
  obtain ⟨A,c,e1,e2,e3,e4,e5⟩:=h1.grown G (λk hk=>.inl (.inr hk));exact ⟨A,c,e1,e2,e3,e4,λh0 ad e hn=>e5 h0 ad e (.inr hn)⟩
 refine kk v' w' ⟨ps++[(vr,r)],by simp,?_,λp O=>?_⟩ J G
 .rw [List.length_append,List.map_append];exact U
 .rcases List.mem_append.1 O with h'|h'
  .exact o p (h3 p h')
  .rw [List.mem_singleton.1 h'];exact o (vr,r) hr
theorem RowsV.parts{w:World}{v:Value}{ls:List Row}(h:RowsV w v ls): ∃ A c,v=.slice A ls.length c/\ls.length<=c/\ls.length<=1100000/\∃ cs:List Value,Rd w 1 A ls.length cs/\∀ i,i<ls.length->∃ u,cs[i]?=some u/\RowV w u (ls.getD i []):=by
 obtain ⟨ps,A,c,rfl,rfl,O,J,G,C⟩:=h;refine ⟨A,c,by simp,by simpa using O,by simpa using J,ps.map (·.1),by simpa using G,λi hi=>?_⟩
 have o:i<ps.length:=by simpa using hi
 exact ⟨_,Iw o,by rw [Jqn];exact C _ (getD_mem' z0 ps o)⟩
open Go.RowKit Pl Go.Wk
theorem Qvk{w:World}{base:Nat}{A:Option Addr}{n c:Nat}{fid:FuncId}{first cap:Array Value}{ps:List Pr}{ds:List Bool}(hD:Dat w base (.slice A n c) ps)(hn:ps.length=n)(hmx:n<=1100000)(hC:CF w (Value.slice A n c).ownBlock fid first cap ps ds):
  Ret Tryz.prog 122 [.slice A n c,.func (.func fid) first cap] w λv w'=>∃ ps',DP w w' base A n c ps ps'/\(n<=1000->SOn z0 (fP ds) ps' 0 n):=by
 refine Jz Tryz.func122 Tryz.ntmps122 rfl kr rfl ?_;refine ρ ?_;refine kv 10 (u:=.int .u64 (n:Int)) (congrArg (Value.int .u64) (Gz om)) ?_;refine cl (Qqn n om w) ?_;rintro v w' ⟨rfl,rfl⟩;refine ρ ?_;have G:Ju n<=48:=Jqp om;refine cl (Qbw n (a0:=0) (b0:=n) (ai:=0) (bi:=(n:Int)) (lim:=(Ju n:Int)) hD hn om hC rfl rfl om (Nat.le_refl _) om om (.inl rfl)) ?_;rintro v C ⟨q,H,_,o⟩;refine ρ ?_;exact Ue ⟨q,H,λ_=>o⟩
theorem Jlx{α:Type}{z:α}{f:α->α->Int}(hf:PreC f){q:List α}{n:Nat}: SOn z f q 0 n↔∀ k,0<k->k<n->¬ f (q.getD k z) (q.getD (k-1) z)<0:=by
 constructor
 .intro h k h0 u o;have:=h (k-1) k om om u;have:=hf.anti (q.getD k z) (q.getD (k-1) z);omega
 .intro h i j _ G C;induction j with
  | zero=>omega
  | succ j ih=>
   have J:=h (j+1) om C;have O:=hf.anti (q.getD (j+1) z) (q.getD j z);simp only [Nat.add_sub_cancel]at J;by_cases e:i=j
   .subst e;omega
   .exact hf.trans _ _ _ (ih om om) om
theorem Jjr{w:World}{A:Option Addr}{n:Nat}{ps:List Pr}(hR:Rd w 1 A n (ps.map (·.1)))(hn:ps.length=n){i:Nat}(hi:i<n): w.cell? (adr A i)=some (ps.getD i z0).1:=hR.cell (Iw (hn.symm ▸ hi))
theorem Vz{ps:List Pr}{n:Nat}(hn:ps.length=n){i:Nat}(hi:i<n): ps.getD i z0∈ps:=getD_mem' z0 ps (hn.symm ▸ hi)
theorem CF.none{w:World}{fid:FuncId}{first cap:Array Value}{ps:List Pr}{ds:List Bool}{row:Option Nat}(h:CF w row fid first cap ps ds){w':World}(hx:Ext w w'){p q:Pr}(hp:p∈ps)(hq:q∈ps):
  Ret Tryz.prog fid (first.toList++[p.1,q.1]++cap.toList) w' λr w''=>r=.int .i64 (fP ds p q)/\Ext w' w'':=h w' (Zk hx _) p q hp hq
theorem Qgj{w:World}{A:Option Addr}{n c:Nat}{fid:FuncId}{first cap:Array Value}{row:Option Nat}{ps:List Pr}{ds:List Bool}(hR:Rd w 1 A n (ps.map (·.1)))(hn:ps.length=n)(hmx:n<=1100000)(hC:CF w row fid first cap ps ds):
  Ret Tryz.prog 120 [.slice A n c,.func (.func fid) first cap] w λv w'=>Ext w w'/\∃ t:Bool,v=.bool t/\(t=true↔SOn z0 (fP ds) ps 0 n):=by
 refine Jz Tryz.func120 Tryz.ntmps120 rfl kr rfl ?_;refine ρ ?_;refine Qd (fun (j:Nat)=>[(0,.slice A n c),(1,.func (.func fid) first cap),(5,.int .i64 ((j:Int)-1))]) (λj w'=>Ext w w'/\j<=n/\∀ k,j<=k->0<k->k<n->¬ fP ds (ps.getD k z0) (ps.getD (k-1) z0)<0) (λj=>j) n sO ⟨Ext.refl w,Nat.le_refl _,λk h1 _ h2=>om⟩ ?_;rintro j w1 ⟨Z,hj,hI⟩;refine ρ ?_;refine ci (λh=>?_) (λh=>?_)
 .have h2:2<=j:=by have:=oT h;omega
  have J:j-1<n:=om
  have C:j-2<n:=om
  refine ρ ?_;refine dr [(0,0),(0,1),(0,2),(0,3),(0,4),(0,5),(0,6),(0,7),(0,8),(0,9),(1,10),(0,11)] kr ?_;have o:Ext w w1.drew:=Z.drew;have u:=hR.ext o;refine ρd ?_;refine dix (j-1) u J ?_;refine ρd ?_;refine dld (Jjr u hn J) ?_;refine ρd ?_;refine dix (j-2) u C ?_;refine ρd ?_;refine dld (Jjr u hn C) ?_;refine ρd ?_;refine Za (hC.none o (Vz hn J) (Vz hn C)) ?_;rintro r w2 ⟨rfl,G⟩;refine ⟨G,?_⟩;refine ρd ?_;refine ρ ?_;refine ci (λh=>?_) (λh=>?_)
  .refine ρ ?_;refine Jj ⟨o.trans G,false,rfl,⟨λe=>(by cases e),λe=>?_⟩⟩;have:=(Jlx (preP ds)).1 e (j-1) om J;exact absurd (oT h) this
  .refine ρ ?_;refine Qw (j-1) sO ⟨o.trans G,om,λk U O k3=>?_⟩ om;by_cases e:k=j-1
   .subst e;exact oF h
   .exact hI k om O k3
 .refine ρ ?_;have h1:j<=1:=by have:=oF h;omega
  exact Jj ⟨Z,true,rfl,⟨λ_=>(Jlx (preP ds)).2 λk U O=>hI k om U O,λ_=>rfl⟩⟩
theorem Qcm{P:Program}{w:World}{t e base n c k bytes:Nat}{z:Value}{A:Option Addr}{xs:List Value}(hE:ElT P t e 1 bytes z)(hz1:z.cells = #[z])(hz2:z.oneCell'=true)(h:w.ownsRow base e 1 (.slice A n c) n xs)(hk:k<=n)(ty:TypeId):
  ∃ w',(Builtin.clear_ #[t] ty #[.slice (if c=k then A else A.map (·.add (k*1))) (n-k) (c-k)]).run P w=.ok (.tuple #[]) w'/\w'.ownsRow base e 1 (.slice A k c) k (xs.take k)/\w.grownBy w' (Value.slice A n c).ownBlock:=by
 obtain ⟨i,hi,Z,a1,a3⟩:=hE.info;obtain ⟨hl,U⟩:=h;have a2:xs.length=n:=om
 rcases Nat.eq_or_lt_of_le hk with e0|hlt
 .subst e0;refine ⟨w,?_,?_,Zk (Ext.refl w) _⟩
  .rw [Nat.sub_self];generalize (if c=k then A else A.map (·.add (k*1)))=B
   cases B<;>simp [Builtin.clear_,run_underlying hE.sl]
  .rw [List.take_of_length_le om];exact ⟨hl,U⟩
 .rcases U with ⟨C,h0⟩|⟨g,cap,cur,C,hb,hg,hle,hmx,hcs,hcur⟩
  .omega
  .injection C with e1 e2 e3
   subst e1;subst e3;have O:¬ c=k:=om
   rw [if_neg O];have e4:(some (⟨g,0,none⟩:Addr)).map (·.add (k*1))=some ⟨g,k,none⟩:=by simp [Vg]
   rw [e4];have o:=run_storeCells_at (P:=P) g k e (List.replicate (n-k) z) 0 cur w hg (by simp;omega) (λv C=>by rw [List.eq_of_mem_replicate C];exact hz2);refine ⟨w.setRow g (cur.toList.take (k+0)++List.replicate (n-k) z++cur.toList.drop (k+0+(List.replicate (n-k) z).length)).toArray,?_,?_,Il w g _⟩
   .have J:∃ m,n-k=m+1:=⟨n-k-1,om⟩;obtain ⟨m,hm⟩:=J;have u:(Builtin.zeroCells z.cells (n-k)).toList=List.replicate (n-k) z:=by
     rw [hz1];simp only [Builtin.zeroCells];apply List.ext_getElem
     .simp
     .intro j h1 h2;simp [Nat.mod_one]
    rw [hm]at o u ⊢;have G:(zeroValue e).run P w=.ok z w:=by simp [zeroValue,typeInfo,hi,Z]
    simp only [Nat.add_zero,List.length_replicate,List.append_assoc]at o ⊢;simp [Builtin.clear_,run_underlying hE.sl,G,u,o]
   .simp only [Nat.add_zero,List.length_replicate];refine ⟨by rw [List.length_take];omega,.inr ⟨g,c,_,rfl,hb,setRow_heap w g cur _ e _ hg,om,hmx,?_,?_⟩⟩
    .simp;omega
    .simp only [Nat.mul_one]at hcur ⊢;rw [List.append_assoc,List.take_append_of_le_length (by simp;omega),<-hcur];conv=>rhs;rw [List.take_take]
     rw [List.take_take,Nat.min_self,Nat.min_eq_left (Nat.le_of_lt hlt)]
end Go.Proofs.YtebcagekopgdhaaGreatDoor
namespace Go.Wk
section
variable {P:Program} {n:Nat} {al:AL} {w:World} {Q:Exit->Act->World->Prop} {ops:Array Oper} {rest:List Oper}
variable {ty:Nat} {pos:String} {aft:Array Edge}
theorem clr{x:Operand}{t:Nat}{v:Value}{w':World}(h:∀ ty,(Builtin.clear_ #[t] ty #[v]).run P w=.ok (.tuple #[]) w')(k:WL P n ops Q rest al w')(hx:ev al x=some v:=by rfl):
  WL P n ops Q (⟨none,.call { callee:=.builtin .clear,args:=#[x],argTypes:=#[t] },ty,pos,aft,none⟩::rest) al w:=λa o=>
 wpList_plain rfl λK u=>by
  unfold Oper.wp;have e:(execOp a.eval ⟨none,.call { callee:=.builtin .clear,args:=#[x],argTypes:=#[t] },ty,pos,aft,none⟩).run P w=.ok (.value (.tuple #[])) w':=by
   simp [execOp,resolve,invoke,builtin,o.ev hx,h ty]
  rw [e,Oper.upon_value];exact u _ _ (k _ o)
end
end Go.Wk
namespace Go.Proofs.YtebcagekopgdhaaGreatDoor
open Go.RowKit Pl Go.Wk
attribute [local irreducible] WC WL QX WD WDB WP
def EqF(w:World)(row:Option Nat)(fid:FuncId)(first cap:Array Value)(M:List Pr): Prop :=
 ∀ w',w.grownBy w' row->∀ p q,p∈M->q∈M->Ret Tryz.prog fid (first.toList++[p.1,q.1]++cap.toList) w' λr w''=>r=.bool (decide (p.2=q.2))/\Ext w' w''
theorem Jts{l:List Row}(h:l.length<2): ddF l=l:=by
 match l with
 | []=>rfl
 | [a]=>rfl
 | _::_::_=>exact absurd h (by simp)
theorem Qy{α:Type}(z:α){l:List α}{k:Nat}(h:k<l.length): l.take (k+1)=l.take k++[l.getD k z]:=by
 rw [List.take_add_one,List.getElem?_eq_getElem h,Jp z l h];rfl
theorem Dat.take{w:World}{base:Nat}{A:Option Addr}{n c k:Nat}{q:List Pr}(hq:q.length=n)(h1:∀ p∈q,p.1.oneCell'=true)(hk:k<=n)(h:w.ownsRow base 37 1 (.slice A k c) k ((q.map (·.1)).take k)): Dat w base (.slice A k c) (q.take k):=by
 refine ⟨?_,λp o=>h1 p (List.mem_of_mem_take o)⟩;rw [List.length_take,hq,Nat.min_eq_left hk,List.map_take];exact h
theorem Qlt{w:World}{base:Nat}{A:Option Addr}{n c:Nat}{fid:FuncId}{first cap:Array Value}{ps:List Pr}(hD:Dat w base (.slice A n c) ps)(hn:ps.length=n)(hmx:n<=1100000)(hnc:n<=c)(hC:EqF w (Value.slice A n c).ownBlock fid first cap ps):
  Ret Tryz.prog 123 [.slice A n c,.func (.func fid) first cap] w λv w'=>∃ ps':List Pr,v=.slice A ps'.length c/\Dat w' base (.slice A ps'.length c) ps'/\ps'.map (·.2)=ddF (ps.map (·.2))/\(∀ p∈ps',p∈ps)/\w.grownBy w' (Value.slice A n c).ownBlock:=by
 refine Jz Tryz.func123 Tryz.ntmps123 rfl kr rfl ?_;obtain ⟨ls,C⟩:∃ ls:List Row,ls=ps.map (·.2):=⟨_,rfl⟩
 have ar:ls.length=n:=by rw [C];simpa using hn
 have u:∀ i,ls.getD i []=(ps.getD i z0).2:=λi=>by rw [C];exact Jqn
 refine ρ ?_;refine ci (λh=>?_) (λh=>?_)
 .refine ρ ?_;refine Jj ⟨ps,by rw [hn],by rw [hn];exact hD,?_,λp U=>U,Zk (Ext.refl w) _⟩;rw [<-C,Jts];have:=oT h;omega
 have h2:2<=n:=by have:=oF h;omega
 clear h;refine ρ ?_;refine Qd (fun (j:Nat)=>[(0,.slice A n c),(1,.func (.func fid) first cap),(5,.int .i64 (j:Int))]) (λj w'=>Ext w w'/\1<=j/\j<=n/\ddF (ls.take j)=ls.take j) (λj=>n-j) 1 sB ⟨Ext.refl w,om,om,Jts (by rw [List.length_take];omega)⟩ ?_;rintro j w1 ⟨hx,av,hj,hI⟩;refine ρ ?_;refine ci (λh=>?_) (λh=>?_);rotate_left
 .have e:j=n:=by have:=oF h;omega
  refine ρ ?_;refine Jj ⟨ps,by rw [hn],by rw [hn];exact hD.ext hx,?_,λp U=>U,Zk hx _⟩;rw [<-C];rw [e,List.take_of_length_le om]at hI;exact hI.symm
 have lj:j<n:=by have:=oT h;omega
 have a5:j-1<n:=om
 clear h;refine ρ ?_;refine dr [(0,0),(0,1),(0,2),(0,3),(0,4),(0,5),(0,6),(0,7),(0,8),(0,9),(1,10)] kr ?_;have a7:Ext w w1.drew:=hx.drew;have a2:=hD.ext a7;refine ρd ?_;refine dix j (a2.rd hn) lj ?_;refine ρd ?_;refine dld (a2.cell hn lj) ?_;refine ρd ?_;refine dix (j-1) (a2.rd hn) a5 ?_;refine ρd ?_;refine dld (a2.cell hn a5) ?_;refine ρd ?_;refine Za (hC _ (Zk a7 _) (ps.getD j z0) (ps.getD (j-1) z0) (Vz hn lj) (Vz hn a5)) ?_;rintro r w2 ⟨rfl,ad⟩;refine ⟨ad,?_⟩;have a6:=a7.trans ad;refine ρd ?_;refine ρ ?_;have o:=Jtq (l:=ls) (k:=j) om;rw [u,u]at o;refine ci (λh=>?_) (λh=>?_);rotate_left
 .have a8:=oF h;refine ρ ?_;refine Qw (j+1) sO ⟨a6,om,om,?_⟩ om;rw [o,if_neg (λe=>a8 e.2.symm),hI,Qy [] om,u]
 have aa:=oT h;clear h;rw [if_pos ⟨om,aa.symm⟩,hI]at o;have ap:=hD.ext a6;refine ρ ?_;refine sll j ?_;refine ρ ?_;refine Xr (fun (k m:Nat) (q:List Pr)=>[(0,.slice A n c),(1,.func (.func fid) first cap),(5,.int .i64 (k:Int)),(6,.slice (if c=j then A else A.map (·.add (j*1))) (n-j) (c-j)),(7,.int .i64 ((m:Int)-(j:Int)))])
  (λk m q w'=>Dat w' base (.slice A n c) q/\q.length=n/\w.grownBy w' (Value.slice A n c).ownBlock/\j<m/\m<=n/\k<m/\(∀ i,k<=i->q.getD i z0=ps.getD i z0)/\(q.take k).map (·.2)=ddF (ls.take m)/\∀ p∈q,p∈ps) (λ_ m _=>n-m) j (j+1) ps sO
  ⟨ap,hn,Zk a6 _,om,om,om,λ_ _=>rfl,by rw [List.map_take,<-C];exact o.symm,λp U=>U⟩ ?_
 rintro k m q w3 ⟨ab,hq,ah,au,hm,hk,Z,a9,G⟩;refine ρ ?_;refine ci (λh=>?_) (λh=>?_)
 .have ae:m<n:=by have:=oT h;omega
  have lm:m-j<n-j:=om
  have ak:m-j-1<n-j:=om
  clear h;refine ρ ?_;refine dr [(0,0),(0,1),(0,2),(0,3),(0,4),(0,5),(0,6),(0,7),(0,8),(0,9),(1,10),(0,11)] kr ?_;have ac:Ext w3 w3.drew:=(Ext.refl w3).drew;have aj:=ab.ext ac;have ag:=Zx ah (Zk ac _);have J:=(aj.rd hq).drop (k:=j) (c:=c) om hnc;have c1:((q.map (·.1)).drop (j*1))[m-j]?=some (ps.getD m z0).1:=by
   rw [List.getElem?_drop,show j*1+(m-j)=m by omega,Iw om,Z m om]
  have c2:((q.map (·.1)).drop (j*1))[m-j-1]?=some (ps.getD (m-1) z0).1:=by
   rw [List.getElem?_drop,show j*1+(m-j-1)=m-1 by omega,Iw om,Z (m-1) om]
  refine ρd ?_;refine dix (m-j) J lm ?_;refine ρd ?_;refine dld (J.cell c1) ?_;refine ρd ?_;refine dix (m-j-1) J ak ?_;refine ρd ?_;refine dld (J.cell c2) ?_;refine ρd ?_;refine Za (hC _ ag (ps.getD m z0) (ps.getD (m-1) z0) (Vz hn ae) (Vz hn om)) ?_;rintro r w7 ⟨rfl,O⟩;refine ⟨O,?_⟩;have a1:=aj.ext O;have af:=Zx ag (Zk O _);have ai:=J.ext O;refine ρd ?_;refine ρ ?_;have o:=Jtq (l:=ls) (k:=m) om;rw [u,u]at o;refine ci (λh=>?_) (λh=>?_)
  .have a8:(ps.getD m z0).2≠(ps.getD (m-1) z0).2:=by simpa using h
   have lk:k<n:=om
   have aq:(q.take k).length=k:=by rw [List.length_take];omega
   refine ρ ?_;refine ix (m-j) ai lm ?_;refine ρ ?_;refine ld (ai.cell c1) ?_;refine ρ ?_;refine ix k (a1.rd hq) lk ?_;refine ρ ?_;obtain ⟨s1,s2,s3⟩:=a1.store hq lk (p:=ps.getD m z0) (hD.one om);refine sto (a1.cell hq lk) s1 ?_ (hv:=hD.one om);refine ρ ?_;refine Qa (k+1) (m+1) (q.set k (ps.getD m z0)) sO ⟨s2,by simpa using hq,Zx af s3,om,om,om,λi hi=>?_,?_,λp U=>?_⟩ om
   .rw [Jqt z0 _ _ _ _ om,if_neg om];exact Z i om
   .rw [o,if_neg (λe=>a8 e.2.symm),<-a9,Qy z0 (by simp;omega),Jqt z0 _ _ _ _ om,if_pos rfl,List.take_set_of_le (Nat.le_refl _),List.map_append];rfl
   .rcases List.mem_or_eq_of_mem_set U with h'|h'
    .exact G p h'
    .rw [h'];exact Vz hn ae
  .have aa:(ps.getD m z0).2=(ps.getD (m-1) z0).2:=by simpa using h
   refine ρ ?_;refine Qa k (m+1) q sO ⟨a1,hq,af,om,om,om,Z,?_,G⟩ om;rw [o,if_pos ⟨om,aa.symm⟩,a9]
 .have e:m=n:=by have:=oF h;omega
  subst e;have a4:=ab.1;rw [hq]at a4;obtain ⟨w8,am,an,ao⟩:=Qcm (P:=Tryz.prog) (k:=k) ER rfl rfl a4 om 0;refine ρ ?_;refine sll k ?_;refine ρ ?_;refine clr (w':=w8) (λty=>am) ?_;refine ρ ?_;refine slh k ?_;refine ρ ?_;have a3:(q.take k).length=k:=by rw [List.length_take];omega
  refine Jj ⟨q.take k,by rw [a3],by rw [a3];exact Dat.take hq ab.2 om an,?_,λp U=>G p (List.mem_of_mem_take U),Zx ah ao⟩;rw [a9,List.take_of_length_le om,C]
open Go.RowKit Pl Go.Wk
def Qr(v:V): Bool:=if v.kind=1 then (v.bytes == []) else if v.kind=2 then decide (v.num=0) && decide (v.bytes.length<=24) else false
theorem Jxs(v:V): v.str.size=v.bytes.length:=(Array.length_toList (xs:=v.str.data)).symm
theorem Qwz(v:V): (v.str.toList == (⟨#[]⟩:ByteArray).toList)=(v.bytes == []):=by rw [ByteArray.toList_eq,ByteArray.toList_eq];rfl
theorem Jhs(v:V)(w:World): Ret Tryz.prog 157 [v.val] w λr w'=>r=.bool (Qr v)/\Ext w w':=by
 refine Jz Tryz.func157 Tryz.ntmps157 rfl kr rfl ?_;refine ρ ?_;refine bx (cs:=v.cells) ?_;intro J b o O u;refine ρ ?_;refine ld (u.at (i:=0) rfl) ?_;refine ρ ?_;refine ci (λh=>?_) (λh=>?_)
 .refine ρ ?_;refine ld (u.at (i:=2) rfl) ?_;refine ρ ?_;refine Jj ⟨?_,o⟩;rw [Qr,if_pos (Xf h),Qwz]
 refine ρ ?_;refine ci (λC=>?_) (λC=>?_)
 .refine ρ ?_;refine ld (u.at (i:=1) rfl) ?_;refine ρ ?_;refine ki 15 (λG=>?_) (λG=>?_)
  .refine ρ ?_;refine ld (u.at (i:=2) rfl) ?_;refine ρ ?_;refine Jj ⟨?_,o⟩;rw [Qr,if_neg (Xg h),if_pos (Xf C),decide_eq_true (Xf G),Jxs,Bool.true_and];congr 1
   exact decide_eq_decide.2 om
  .refine ρ ?_;refine Jj ⟨?_,o⟩;rw [Qr,if_neg (Xg h),if_pos (Xf C),decide_eq_false (Xg G)];rfl
 .refine ρ ?_;refine Jj ⟨?_,o⟩;rw [Qr,if_neg (Xg h),if_neg (Xg C)]
theorem Qyd{v:Value}{r:Row}{w:World}(h:RowV w v r): Ret Tryz.prog 119 [v] w λu w'=>u=.bool (r.all Qr)/\Ext w w':=by
 obtain ⟨A,c,rfl,h2,h3,Z⟩:=h;refine Jz Tryz.func119 Tryz.ntmps119 rfl kr rfl ?_;refine ρ ?_;refine Qd (fun (k:Nat)=>[(0,.slice A r.length c),(5,.int .i64 (r.length:Int)),(6,.int .i64 (k:Int))]) (λk w'=>Ext w w'/\k<=r.length/\(r.take k).all Qr=true) (λk=>r.length-k) 0 sB ⟨Ext.refl w,Nat.zero_le _,rfl⟩ ?_;rintro k w1 ⟨G,hk,J⟩;refine ρ ?_;refine ci (λh=>?_) (λh=>?_)
 .have lk:k<r.length:=by have:=oT h;omega
  have C:=Z.ext G;refine ρ ?_;refine ixq 3 k C lk ?_;refine ρ ?_;refine lds (λj u U=>RdR.cell C lk U) ?_;refine ρ ?_;refine cl (Jhs (r.getD k V0) _) ?_;rintro u w2 ⟨rfl,o⟩;refine ρ ?_;refine ci (λh=>?_) (λh=>?_)
  .refine ρ ?_;refine Jj ⟨?_,G.trans o⟩;have O:Qr (r.getD k V0)=false:=by simpa using h
   congr 1
   symm
   rw [List.all_eq_false];exact ⟨_,Qhd lk,by rw [O];decide⟩
  .refine ρ ?_;have O:Qr (r.getD k V0)=true:=by simpa using h
   refine Qw (k+1) sO ⟨G.trans o,om,?_⟩ om;rw [Qy V0 lk,List.all_append,J,List.all_cons,O];rfl
 .refine ρ ?_;refine Jj ⟨?_,G⟩;rw [List.take_of_length_le (by have:=oF h;omega)]at J;rw [J]
def RelV(w:World)(v:Value)(ar:Nat)(ls:List Row): Prop:=∃ rv,v=.agg #[.int .i64 (ar:Int),rv]/\RowsV w rv ls
theorem RelV.ext{w w':World}{v:Value}{ar:Nat}{ls:List Row}(h:RelV w v ar ls)(hx:Ext w w'): RelV w' v ar ls:=by
 obtain ⟨o,e,h⟩:=h;exact ⟨o,e,h.ext hx⟩
theorem Ug: Qt Tryz.prog 95=some (.agg #[.int .i64 0,.slice none 0 0]):=kr
theorem Jvz(w:World): (Instr.build 95 #[]).run Tryz.prog w=.ok (.agg #[.int .i64 0,.slice none 0 0]) w:=kr
theorem Qnz(z:Int)(w:World): (Instr.build 95 #[(0,.int .i64 z)]).run Tryz.prog w=.ok (.agg #[.int .i64 z,.slice none 0 0]) w:=kr
theorem Qnw(z:Int)(A:Option Addr)(n c:Nat)(w:World): (Instr.build 95 #[(0,.int .i64 z),(1,.slice A n c)]).run Tryz.prog w=.ok (.agg #[.int .i64 z,.slice A n c]) w:=kr
theorem Vs{z:Int}{A:Option Addr}{n c:Nat}: ∀ u∈[Value.int .i64 z,.slice A n c],u.oneCell'=true:=by
 intro u o;simp at o;rcases o with rfl|rfl<;>rfl
theorem Qym(z:Int)(w:World): Ret Tryz.prog 75 [.int .i64 z] w λv w'=>Ext w w'/\∃ z' e,v=.tuple #[.agg #[.int .i64 z',.slice none 0 0],.int .i64 e]/\(e=0->z'=z)/\(e=0↔0<=z/\z<=32):=by
 refine Jz Tryz.func75 Tryz.ntmps75 rfl kr rfl ?_;refine ρ ?_;refine alc Ug ?_;intro U b C G J;refine ρ ?_;refine Vm (fun (t:Bool)=>[(0,.int .i64 z),(2,.pointer (some ⟨b,0,none⟩)),(9,.bool t)]) (λt w'=>w'=U/\(t=true↔¬ (0<=z/\z<=32))) ?_ ?_
 .refine ki 6 (λh=>?_) (λh=>?_)
  .refine ρ ?_;exact Jb true sB ⟨rfl,by have:=oT h;simp;omega⟩
  .refine ρ ?_;refine Jb _ sB ⟨rfl,?_⟩;have:=oF h;rw [decide_eq_true_iff];omega
 rintro t w' ⟨rfl,ht⟩;refine ci (λh=>?_) (λh=>?_)
 .refine ρ ?_;refine bld (Jvz _) ?_;refine ρ ?_;refine stb J ?_ Vs;intro O u _ o;refine ρ ?_;exact Zh u ⟨o w C G,0,3,rfl,λe=>(by cases e),⟨λe=>(by cases e),λe=>absurd e (ht.1 h)⟩⟩
 .refine ρ ?_;refine bld (Qnz z _) ?_;refine ρ ?_;refine stb J ?_ (Vs (z:=z) (A:=none) (n:=0) (c:=0));intro O u _ o;refine ρ ?_;refine Zh u ⟨o w C G,z,0,rfl,λ_=>rfl,⟨λ_=>?_,λ_=>rfl⟩⟩;by_cases hz:0<=z/\z<=32
  .exact hz
  .rw [ht.2 hz]at h;cases h
theorem Qrc{ar:Int}{sv v:Value}{r:Row}{A:Option Addr}{n c:Nat}{w:World}(hs:sv=.slice A n c)(h:RowV w v r): Ret Tryz.prog 76 [.agg #[.int .i64 ar,sv],v] w λu w'=>Ext w w'/\∃ e,u=.int .i64 e/\(e=0↔(r.length:Int)=ar/\r.all Qr=true):=by
 subst hs;obtain ⟨B,c',rfl,G,h3,hr⟩:=id h;refine Jz Tryz.func76 Tryz.ntmps76 rfl kr rfl ?_;refine ρ ?_;refine bx ?_;intro w1 b o hb J;refine ρ ?_;refine ld (J.at (i:=0) rfl) ?_;refine ρ ?_;refine ci (λh=>?_) (λO=>?_)
 .refine ρ ?_;exact Jj ⟨o,6,rfl,⟨λe=>(by cases e),λe=>absurd e.1 (Gf h)⟩⟩
 have U:=Gg O;refine ρ ?_;refine cl (Qyd (h.ext o)) ?_;rintro u Z ⟨rfl,C⟩;refine ρ ?_;refine ci (λh=>?_) (λG=>?_)
 .refine ρ ?_;refine Jj ⟨o.trans C,4,rfl,⟨λe=>(by cases e),λe=>?_⟩⟩;rw [e.2]at h;cases h
 .refine ρ ?_;refine Jj ⟨o.trans C,0,rfl,⟨λ_=>⟨U,by simpa using G⟩,λ_=>rfl⟩⟩
end Go.Proofs.YtebcagekopgdhaaGreatDoor
