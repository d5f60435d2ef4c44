/- Part 10 of the proof: Of, Cpt, Cpt2, Rel. -/
import Derived.Test.YtefpailelagbkaaGreatDoorJ09
import Derived.Laws.CopyRow
set_option linter.unusedVariables false
set_option maxRecDepth 100000
set_option maxHeartbeats 40000000
namespace Go.Proofs.YtefpailelagbkaaGreatDoor
open Go.RowKit Pl Go.Wk
attribute [local irreducible] WC WL QX WD WDB WP
def RowX(w:World)(N:Nat->Prop)(v:Value)(r:List V): Prop:=∃ A c,v=.slice A r.length c/\r.length<=c/\r.length<=1100000/\RdR w A r/\(r≠[]->∀ ad,A=some ad->¬ N ad.block)
def one(g:Option Nat)(k:Nat): Prop:=g=some k
theorem RowX.v{w:World}{N:Nat->Prop}{v:Value}{r:List V}(h:RowX w N v r): RowV w v r:=by
 obtain ⟨A,c,u,o,j,i,_⟩:=h;exact ⟨A,c,u,o,j,i⟩
theorem RowX.ext{w w':World}{N:Nat->Prop}{v:Value}{r:List V}(h:RowX w N v r)(hx:Ext w w'): RowX w' N v r:=by
 obtain ⟨A,c,C,u,o,j,i⟩:=h;exact ⟨A,c,C,u,o,j.ext hx,i⟩
theorem RowX.mono{w:World}{N N':Nat->Prop}{v:Value}{r:List V}(h:RowX w N v r)(hN:∀ k,k<w.heap.size->N' k->N k): RowX w N' v r:=by
 obtain ⟨A,c,D,C,u,j,o⟩:=h;refine ⟨A,c,D,C,u,j,λh0 O e hn=>o h0 O e (hN _ ?_ hn)⟩;obtain ⟨J,i,G⟩:=Rd.isome j (List.length_pos_iff.2 h0) (by omega);rw [e]at i;injection i with i;subst i;exact G
theorem RowX.nil(w:World)(N:Nat->Prop): RowX w N (.slice none 0 0) []:=⟨none,0,rfl,by simp,by simp,Rd.nil,λh=>absurd rfl h⟩
def RowsV(w:World)(v:Value)(ls:List (List V)): Prop:=∃ (ps:List Pr) (A:Option Addr) (c:Nat),ls=ps.map (·.2)/\v=.slice A ps.length c/\ps.length<=c/\ps.length<=1100000/\Rd w 1 A ps.length (ps.map (·.1))/\∀ p∈ps,RowV w p.1 p.2
theorem RowsV.ext{w w':World}{v:Value}{ls:List (List V)}(h:RowsV w v ls)(hx:Ext w w'): RowsV w' v ls:=by
 obtain ⟨ps,A,c,G,D,C,u,o,j⟩:=h;exact ⟨ps,A,c,G,D,C,u,o.ext hx,λp i=>(j p i).ext hx⟩
theorem RowV.one{w:World}{v:Value}{r:List V}(h:RowV w v r): v.oneCell'=true:=by obtain ⟨A,c,rfl,_⟩:=h;rfl
theorem Jyn{v:Value}{r:List V}{w:World}(h:RowV w v r)(N:Nat->Prop)(hg:∀ k,N k->k<w.heap.size):
  Ret Tryz.prog 68 [v] w λv' w'=>RowX w' N v' r/\Ext w w':=by
 obtain ⟨A,c,rfl,J,h3,G⟩:=h;refine Jjc Tryz.func68 Tryz.ntmps68 rfl (by kernel_rfl) rfl ?_;refine ρ ?_;refine Qrw ?_;refine ρ ?_;refine ci (λh=>?_) (λh=>?_)
 ·have Z:A=none:=by simpa using h
  subst Z;have hn:r.length=0:=by
   rcases Nat.eq_zero_or_pos r.length with h0|h0
   ·exact h0
   ·obtain ⟨O,J,_⟩:=G.isome h0 (by omega);cases J
  obtain rfl:=List.eq_nil_of_length_eq_zero hn;refine ρ ?_;exact Jjr ⟨RowX.nil w N,Ext.refl w⟩
 ·refine ρ ?_;refine bsl Qlh ?_;intro w1 b j D C;refine ρ ?_;refine apo j EV (C.own (n:=0) D rfl (Nat.zero_le _)) (G.ext j) (Qkp r) (by unfold maxLen;omega) (by omega) ?_;intro v2 w2 i u _ _;obtain ⟨A2,c2,rfl,o,U⟩:=Jjd i;refine ρ ?_;rw [Nat.zero_add]at i o ⊢;refine Jjr ⟨⟨A2,c2,rfl,o,h3,Rd.own i,λ_ O e=>?_⟩,u⟩;subst e;intro e2;have h4:=hg _ e2;have h5:=(U O.block rfl).1;omega
theorem Pr.rep(n:Nat): (List.replicate n ((.slice none 0 0,[]):Pr)).map (·.1)=List.replicate n (.slice none 0 0):=by simp
def Srt(ds:List Bool)(ls:List (List V)): Prop:=ls.Pairwise λa b=>Jxg a b ds<=0
theorem Qrt{ds:List Bool}{ps:List Pr}(h:SOn z0 (fP ds) ps 0 ps.length): Srt ds (ps.map (·.2)):=by
 unfold Srt;rw [List.pairwise_map,List.pairwise_iff_getElem];intro i j hi u o;have:=h i j (Nat.zero_le _) o u;rw [Jjh z0 ps hi,Jjh z0 ps u]at this;exact this
end Go.Proofs.YtefpailelagbkaaGreatDoor
namespace Go.Proofs.YtefpailelagbkaaGreatDoor
open Pl
abbrev Row:= List V
def Lt(ds:List Bool)(ls:List Row): Prop:=ls.Pairwise λa b=>Jxg a b ds<0
def Jvg(ds:List Bool)(ls m:List Row): Prop:=Lt ds m/\∀ x,x∈m↔x∈ls
theorem Qwl(ds:List Bool)(a:Row): ¬ Jxg a a ds<0:=by rw [Jxl];omega
theorem Xqk{ds:List Bool}{a b:Row}(h:Jxg a b ds<0): ¬ Jxg b a ds<0:=by rw [Jmp a b];omega
theorem Jyt{ds:List Bool}: ∀ {l m:List Row},Lt ds l->Lt ds m->(∀ x,x∈l↔x∈m)->l=m
 | [],[],_,_,_=>rfl
 | [],b::m,_,_,h=>absurd ((h b).2 (mC ..)) (by simp)
 | a::l,[],_,_,h=>absurd ((h a).1 (mC ..)) (by simp)
 | a::l,b::m,h1,h2,h=>by
  have p1:=List.pairwise_cons.1 h1;have p2:=List.pairwise_cons.1 h2;have hab:a=b:=by
   rcases List.mem_cons.1 ((h a).1 (mC ..)) with e|e
   ·exact e
   ·rcases List.mem_cons.1 ((h b).2 (mC ..)) with e2|e2
    ·exact e2.symm
    ·exact absurd (p1.1 _ e2) (Xqk (p2.1 _ e))
  subst hab;congr 1
  refine Jyt p1.2 p2.2 λx=>?_;have hx:=h x;constructor
  ·intro hm;rcases List.mem_cons.1 (hx.1 (List.mem_cons_of_mem _ hm)) with e|e
   ·subst e;exact absurd (p1.1 _ hm) (Qwl ds x)
   ·exact e
  ·intro hm;rcases List.mem_cons.1 (hx.2 (List.mem_cons_of_mem _ hm)) with e|e
   ·subst e;exact absurd (p2.1 _ hm) (Qwl ds x)
   ·exact e
def ddS(out:List Row)(x:Row): List Row:=if out.getLast?=some x then out else out++[x]
def ddF(l:List Row): List Row:=l.foldl ddS []
theorem Jrz(l:List Row)(x:Row): ddF (l++[x])=ddS (ddF l) x:=by simp [ddF,List.foldl_append]
theorem Qvb(out:List Row)(x:Row): (ddS out x).getLast?=some x:=by
 unfold ddS;split
 ·assumption
 ·simp
theorem getLast_mem'{l:List Row}{x:Row}(h:l.getLast?=some x): x∈l:=by
 rw [List.getLast?_eq_some_iff]at h;obtain ⟨i,rfl⟩:=h;simp
theorem Qzc{ds:List Bool}: ∀ (l out:List Row),Lt ds out->(∀ a∈out,∀ b∈l,Jxg a b ds<=0)->Srt ds l->Lt ds (l.foldl ddS out)/\∀ x,x∈l.foldl ddS out↔(x∈out∨x∈l)
 | [],out,h,_,_=>⟨h,λx=>by simp⟩
 | y::l,out,h,hle,hs=>by
  have p:=List.pairwise_cons.1 hs;simp only [List.foldl_cons];by_cases e:out.getLast?=some y
  ·have hy:=getLast_mem' e;have e1:ddS out y=out:=by unfold ddS;rw [if_pos e]
   rw [e1];obtain ⟨k1,k2⟩:=Qzc l out h (λa ha b hb=>hle a ha b (List.mem_cons_of_mem _ hb)) p.2;refine ⟨k1,λx=>(k2 x).trans ?_⟩;constructor
   ·rintro (h'|h')
    ·exact .inl h'
    ·exact .inr (List.mem_cons_of_mem _ h')
   ·rintro (h'|h')
    ·exact .inl h'
    ·rcases List.mem_cons.1 h' with rfl|h'
     ·exact .inl hy
     ·exact .inr h'
  ·have e1:ddS out y=out++[y]:=by unfold ddS;rw [if_neg e]
   rw [e1];have hlt:∀ a∈out,Jxg a y ds<0:=by
    intro a ha;have h1:=hle a ha y (mC ..);rcases Int.lt_or_eq_of_le h1 with h2|h2
    ·exact h2
    ·exfalso
     have:=Jvf _ _ _ h2;subst this
     -- a is in out,and everything in out is below a;so a is the last
     obtain ⟨z,hz⟩:∃ z,out.getLast?=some z:=by
      cases hq:out.getLast? with
      | none=>rw [List.getLast?_eq_none_iff]at hq;rw [hq]at ha;cases ha
      | some z=>exact ⟨z,rfl⟩
     rw [List.getLast?_eq_some_iff]at hz;obtain ⟨ys,rfl⟩:=hz;rcases List.mem_append.1 ha with h3|h3
     ·have h4:=(List.pairwise_append.1 h).2.2 _ h3 z (by simp);have h5:=hle z (by simp) a (mC ..);exact absurd ((Jsd ds).lt_le h4 h5) (Qwl ds a)
     ·rw [List.mem_singleton.1 h3]at e;simp at e
   obtain ⟨k1,k2⟩:=Qzc l (out++[y]) (List.pairwise_append.2 ⟨h,List.pairwise_singleton _ _,λa ha b hb=>by rw [List.mem_singleton.1 hb];exact hlt a ha⟩) (λa ha b hb=>by
    rcases List.mem_append.1 ha with h'|h'
    ·exact hle a h' b (List.mem_cons_of_mem _ hb)
    ·rw [List.mem_singleton.1 h'];exact p.1 b hb) p.2
   refine ⟨k1,λx=>(k2 x).trans ?_⟩;rw [List.mem_append,List.mem_singleton,List.mem_cons,or_assoc]
theorem Qsr: ∀ (l out:List Row),(l.foldl ddS out).length<=out.length+l.length
 | [],out=>by simp
 | y::l,out=>by
  simp only [List.foldl_cons];have:=Qsr l (ddS out y);have h2:(ddS out y).length<=out.length+1:=by unfold ddS;split<;>simp
  simp only [List.length_cons];omega
theorem Jmh(l:List Row): (ddF l).length<=l.length:=by have:=Qsr l [];simpa [ddF] using this
theorem Qhv{ds:List Bool}{l:List Row}(h:Srt ds l): Jvg ds l (ddF l):=by
 obtain ⟨o,j⟩:=Qzc l [] List.Pairwise.nil (λa i=>by cases i) h;exact ⟨o,λx=>(j x).trans (by simp)⟩
theorem Qvc{l:List Row}{k:Nat}(hk:k<l.length): ddF (l.take (k+1))=if k≠0/\l.getD (k-1) []=l.getD k [] then ddF (l.take k) else ddF (l.take k)++[l.getD k []]:=by
 rw [List.take_succ_eq_append_getElem hk,Jrz,<-Jjh [] l hk];unfold ddS;by_cases h0:k=0
 ·subst h0;rw [if_neg (by simp [ddF]),if_neg (by simp)]
 ·have i:k-1<l.length:=by omega
  have e:ddF (l.take k)=ddS (ddF (l.take (k-1))) (l.getD (k-1) []):=by
   have:=List.take_succ_eq_append_getElem i;rw [show k-1+1=k by omega]at this;rw [this,Jrz,Jjh [] l i]
  rw [e,Qvb];by_cases h1:l.getD (k-1) []=l.getD k []
  ·rw [if_pos (by rw [h1]),if_pos ⟨h0,h1⟩]
  ·rw [if_neg (by simpa using h1),if_neg (λh=>h1 h.2)]
def cnt(ds:List Bool)(l:List Row)(r:Row): Nat:=(l.filter λx=>decide (Jxg x r ds<0)).length
theorem Xvh(ds:List Bool)(l:List Row)(r:Row): cnt ds l r<=l.length:=List.length_filter_le _ _
theorem Lt.at{ds:List Bool}{l:List Row}(h:Lt ds l){i j:Nat}(hij:i<j)(hj:j<l.length): Jxg (l.getD i []) (l.getD j []) ds<0:=by
 have:=List.pairwise_iff_getElem.1 h i j (by omega) hj hij;rw [Jjh [] l hj,Jjh [] l (by omega)];exact this
theorem Qvf{ds:List Bool}{l:List Row}{r:Row}{k:Nat}(hk:k<=l.length)(hlo:∀ i,i<k->Jxg (l.getD i []) r ds<0)(hhi:∀ i,k<=i->i<l.length->¬ Jxg (l.getD i []) r ds<0): cnt ds l r=k:=by
 unfold cnt;have e:l=l.take k++l.drop k:=(List.take_append_drop k l).symm;rw [e,List.filter_append,List.length_append];have C:(l.take k).filter (λx=>decide (Jxg x r ds<0))=l.take k:=by
  rw [List.filter_eq_self];intro x o;obtain ⟨i,hi,rfl⟩:=List.getElem_of_mem o;have j:i<k:=by simp at hi;omega
  have:=hlo i j;rw [Jjh [] l (by omega)]at this;simpa using this
 have u:(l.drop k).filter (λx=>decide (Jxg x r ds<0))=[]:=by
  rw [List.filter_eq_nil_iff];intro x o;obtain ⟨i,hi,rfl⟩:=List.getElem_of_mem o;have j:k+i<l.length:=by simp at hi;omega
  have:=hhi (k+i) (by omega) j;rw [Jjh [] l j]at this;simpa using this
 rw [C,u];simp;omega
theorem rank_at{ds:List Bool}{l:List Row}(h:Lt ds l){r:Row}{k:Nat}(hk:k<=l.length)(hlo:k=0∨Jxg (l.getD (k-1) []) r ds<0)(hhi:k=l.length∨¬ Jxg (l.getD k []) r ds<0):
  cnt ds l r=k/\(r∈l↔k<l.length/\l.getD k []=r):=by
 have lo:∀ i,i<k->Jxg (l.getD i []) r ds<0:=λi hi=>by
  rcases hlo with h0|h0
  ·omega
  ·by_cases e:i=k-1
   ·rw [e];exact h0
   ·exact (Jsd ds).lt_trans (h.at (i:=i) (j:=k-1) (by omega) (by omega)) h0
 have hi:∀ i,k<=i->i<l.length->¬ Jxg (l.getD i []) r ds<0:=λi o D=>by
  rcases hhi with h0|h0
  ·omega
  ·by_cases e:i=k
   ·rw [e];exact h0
   ·exact λO=>h0 ((Jsd ds).lt_trans (h.at (i:=k) (j:=i) (by omega) D) O)
 refine ⟨Qvf hk lo hi,λG=>?_,λ⟨o,D⟩=>?_⟩
 ·obtain ⟨j,C,u⟩:=List.getElem_of_mem G;rw [<-Jjh [] l C]at u;have J:k<=j:=by
   rcases Nat.lt_or_ge j k with o|o
   ·exact absurd (u ▸ lo j o) (Qwl ds r)
   ·exact o
  have:j=k:=by
   rcases Nat.lt_or_ge k j with o|o
   ·exact absurd (u ▸ h.at o C) (hi k (Nat.le_refl _) (by omega))
   ·omega
  subst this;exact ⟨C,u⟩
 ·rw [<-D];exact getD_mem' [] l o
def Xkv(ds:List Bool)(l:List Row)(r:Row): List Row:=if r∈l then l else l.take (cnt ds l r)++r::l.drop (cnt ds l r)
theorem Xjn{ds:List Bool}{l ls:List Row}{r:Row}(h:Jvg ds ls l): Jvg ds (ls++[r]) (Xkv ds l r):=by
 unfold Xkv;split
 ·rename_i hm;refine ⟨h.1,λx=>?_⟩;rw [List.mem_append,List.mem_singleton,<-h.2 x];exact ⟨.inl,λu=>u.elim id λe=>e ▸ hm⟩
 ·rename_i hm;have a1:=Xvh ds l r
  -- what is below the place is smaller,what is above is greater
  have U:∃ k,cnt ds l r=k/\k<=l.length/\(∀ i,i<k->Jxg (l.getD i []) r ds<0)/\(∀ i,k<=i->i<l.length->¬ Jxg (l.getD i []) r ds<0):=by
   have ex:∀ n,n<=l.length->∃ k,k<=n/\(∀ i,i<k->Jxg (l.getD i []) r ds<0)/\(k=n∨¬ Jxg (l.getD k []) r ds<0):=by
    intro n;induction n with
    | zero=>exact λ_=>⟨0,Nat.le_refl _,λi hi=>by omega,.inl rfl⟩
    | succ n ih=>
     intro hn;obtain ⟨k,Z,D,o⟩:=ih (by omega);rcases o with o|o
     ·subst o;by_cases h0:Jxg (l.getD k []) r ds<0
      ·exact ⟨k+1,Nat.le_refl _,λi hi=>by
        by_cases e:i=k
        ·rw [e];exact h0
        ·exact D i (by omega),.inl rfl⟩
      ·exact ⟨k,by omega,D,.inr h0⟩
     ·exact ⟨k,by omega,D,.inr o⟩
   obtain ⟨k,Z,D,o⟩:=ex l.length (Nat.le_refl _);have hi:∀ i,k<=i->i<l.length->¬ Jxg (l.getD i []) r ds<0:=λi h1 h2=>by
    rcases o with o|o
    ·omega
    ·by_cases e:i=k
     ·rw [e];exact o
     ·exact λh3=>o ((Jsd ds).lt_trans (h.1.at (i:=k) (j:=i) (by omega) h2) h3)
   exact ⟨k,Qvf Z D hi,Z,D,hi⟩
  obtain ⟨k,hk,Z,D,o⟩:=U;rw [hk];have G:=h.1;refine ⟨?_,λx=>?_⟩
  ·unfold Lt at G ⊢;rw [List.pairwise_append];refine ⟨G.sublist (List.take_sublist _ _),List.pairwise_cons.2 ⟨λb O=>?_,G.sublist (List.drop_sublist _ _)⟩,λa ha b O=>?_⟩
   ·obtain ⟨i,hi,rfl⟩:=List.getElem_of_mem O;have C:k+i<l.length:=by simp at hi;omega
    have:=o (k+i) (by omega) C;rw [Jjh [] l C]at this;rw [List.getElem_drop];rcases (Jsd ds).tot l[k+i] r with e|e|e
    ·exact absurd e this
    ·exact absurd (e ▸ List.getElem_mem C) hm
    ·exact e
   ·obtain ⟨i,hi,rfl⟩:=List.getElem_of_mem ha;have C:i<k:=by simp at hi;omega
    have h1:=D i C;rw [Jjh [] l (by omega)]at h1;rw [List.getElem_take];rcases List.mem_cons.1 O with rfl|O
    ·exact h1
    ·obtain ⟨j,hj,rfl⟩:=List.getElem_of_mem O;have J:k+j<l.length:=by simp at hj;omega
     rw [List.getElem_drop];have:=h.1.at (i:=i) (j:=k+j) (by omega) J;rw [Jjh [] l J,Jjh [] l (by omega)]at this;exact this
  ·rw [List.mem_append,List.mem_cons,List.mem_append,List.mem_singleton,<-h.2 x];have e:x∈l↔x∈l.take k∨x∈l.drop k:=by
    conv=>lhs;rw [<-List.take_append_drop k l]
    exact List.mem_append
   rw [e];constructor
   ·rintro (u|u|u)
    ·exact .inl (.inl u)
    ·exact .inr u
    ·exact .inl (.inr u)
   ·rintro ((u|u)|u)
    ·exact .inl u
    ·exact .inr (.inr u)
    ·exact .inr (.inl u)
open Go.RowKit Pl Go.Wk
attribute [local irreducible] WC WL QX WD WDB WP
theorem Xvq(v:Value)(w:World)(A:Option Addr)(n c:Nat)(hv:v=.slice A n c): (Instr.buildSlice 35 1 #[(0,v)]).run Tryz.prog w=.ok (.slice (some ⟨w.heap.size,0,none⟩) 1 1) (w.alloc (.cells [v].toArray 40)):=by
 subst hv;kernel_rfl
theorem Qwm{ps:List Pr}{i:Nat}: (ps.map (·.2)).getD i []=(ps.getD i z0).2:=by
 simp only [List.getD,List.getElem?_map];cases ps[i]?<;>rfl
def own(base:Nat)(v:Value)(k:Nat): Prop:=k<base∨v.ownBlock=some k
theorem RowsV.parts{w:World}{v:Value}{ls:List Row}(h:RowsV w v ls): ∃ A c,v=.slice A ls.length c/\ls.length<=c/\ls.length<=1100000/\∃ cs:List Value,Rd w 1 A ls.length cs/\∀ i,i<ls.length->∃ u,cs[i]?=some u/\RowV w u (ls.getD i []):=by
 obtain ⟨ps,A,c,rfl,rfl,G,D,C,o⟩:=h;refine ⟨A,c,by simp,by simpa using G,by simpa using D,ps.map (·.1),by simpa using C,λi hi=>?_⟩
 have j:i<ps.length:=by simpa using hi
 exact ⟨_,Jtk j,by rw [Qwm];exact o _ (getD_mem' z0 ps j)⟩
open Go.RowKit Pl Go.Wk
theorem Jtp{w:World}{base:Nat}{A:Option Addr}{n c:Nat}{fid:FuncId}{first cap:Array Value}{ps:List Pr}{ds:List Bool}(hD:Dat w base (.slice A n c) ps)(hn:ps.length=n)(hC:CF w (Value.slice A n c).ownBlock fid first cap ps ds)(h12:n<=12){lim:Int}:
  Ret Tryz.prog 150 [.slice A n c,.int .i64 0,.int .i64 (n:Int),.int .i64 lim,.func (.func fid) first cap] w λv w'=>∃ ps',DP w w' base A n c ps ps'/\SOn z0 (fP ds) ps' 0 n:=by
 refine Jjc Tryz.func150 Tryz.ntmps150 rfl (by kernel_rfl) rfl ?_;refine ρ ?_;refine Jqw (fun (_:Unit)=>[(0,.slice A n c),(1,.int .i64 0),(2,.int .i64 (n:Int)),(3,.int .i64 lim),(4,.func (.func fid) first cap)]) (λ_ w'=>w'=w) (λ_=>0) () sB rfl ?_;rintro _ w' rfl;refine ρ ?_;refine ct ?_ ?_
 ·exact decide_eq_true (by omega)
 refine ρ ?_;refine cl (Jcz (a:=0) (ai:=0) (bi:=(n:Int)) hD hn rfl rfl (Nat.le_refl _) (by omega) (by omega) hC.pack) ?_;rintro v D ⟨i,C,u,o,j⟩;refine ρ ?_;exact Xxw ⟨i,(DP.start hD hn).ins C u j,o⟩
theorem Jtd{w:World}{base:Nat}{A:Option Addr}{n c:Nat}{fid:FuncId}{first cap:Array Value}{ps:List Pr}{ds:List Bool}(hD:Dat w base (.slice A n c) ps)(hn:ps.length=n)(hmx:n<=1100000)(hC:CF w (Value.slice A n c).ownBlock fid first cap ps ds):
  Ret Tryz.prog 118 [.slice A n c,.func (.func fid) first cap] w λv w'=>∃ ps',DP w w' base A n c ps ps'/\(n<=12->SOn z0 (fP ds) ps' 0 n):=by
 refine Jjc Tryz.func118 Tryz.ntmps118 rfl (by kernel_rfl) rfl ?_;refine ρ ?_;refine kv 10 (u:=.int .u64 (n:Int)) (congrArg (Value.int .u64) (Xxr (by omega))) ?_;refine cl (Jms n (by omega) w) ?_;rintro v w' ⟨rfl,rfl⟩;refine ρ ?_;have o:Jkl n<=48:=Jfh (by omega);by_cases h12:n<=12
 ·refine cl (Jtp hD hn hC h12) ?_;rintro v i ⟨q,H,j⟩;refine ρ ?_;exact Qhh ⟨q,H,λ_=>j⟩
 ·refine cl (Xjt n (a:=0) (b:=n) (ai:=0) (bi:=(n:Int)) (lim:=(Jkl n:Int)) hD hn (by omega) hC rfl rfl (by omega) (Nat.le_refl _) (by omega) (by omega)) ?_;rintro v i ⟨q,H⟩;refine ρ ?_;exact Qhh ⟨q,H,λh=>absurd h h12⟩
theorem Qfc{α:Type}{z:α}{f:α->α->Int}(hf:PreC f){q:List α}{n:Nat}: SOn z f q 0 n↔∀ k,0<k->k<n->¬ f (q.getD k z) (q.getD (k-1) z)<0:=by
 constructor
 ·intro h k h0 u o;have:=h (k-1) k (by omega) (by omega) u;have:=hf.anti (q.getD k z) (q.getD (k-1) z);omega
 ·intro h i j _ D C;induction j with
  | zero=>omega
  | succ j ih=>
   have G:=h (j+1) (by omega) C;have J:=hf.anti (q.getD (j+1) z) (q.getD j z);simp only [Nat.add_sub_cancel]at G;by_cases e:i=j
   ·subst e;omega
   ·exact hf.trans _ _ _ (ih (by omega) (by omega)) (by omega)
theorem Qyq{w:World}{A:Option Addr}{n:Nat}{ps:List Pr}(hR:Rd w 1 A n (ps.map (·.1)))(hn:ps.length=n){i:Nat}(hi:i<n): w.cell? (adr A i)=some (ps.getD i z0).1:=hR.cell (Jtk (hn.symm ▸ hi))
theorem Jkn{ps:List Pr}{n:Nat}(hn:ps.length=n){i:Nat}(hi:i<n): ps.getD i z0∈ps:=getD_mem' z0 ps (hn.symm ▸ hi)
theorem CF.none{w:World}{fid:FuncId}{first cap:Array Value}{ps:List Pr}{ds:List Bool}{row:Option Nat}(h:CF w row fid first cap ps ds){w':World}(hx:Ext w w'){p q:Pr}(hp:p∈ps)(hq:q∈ps):
  Ret Tryz.prog fid (first.toList++[p.1,q.1]++cap.toList) w' λr w''=>r=.int .i64 (fP ds p q)/\Ext w' w'':=h w' (Jqf hx _) p q hp hq
theorem Qjb{w:World}{A:Option Addr}{n c:Nat}{fid:FuncId}{first cap:Array Value}{row:Option Nat}{ps:List Pr}{ds:List Bool}(hR:Rd w 1 A n (ps.map (·.1)))(hn:ps.length=n)(hmx:n<=1100000)(hC:CF w row fid first cap ps ds):
  Ret Tryz.prog 116 [.slice A n c,.func (.func fid) first cap] w λv w'=>Ext w w'/\∃ t:Bool,v=.bool t/\(t=true↔SOn z0 (fP ds) ps 0 n):=by
 refine Jjc Tryz.func116 Tryz.ntmps116 rfl (by kernel_rfl) rfl ?_;refine ρ ?_;refine Jqw (fun (j:Nat)=>[(0,.slice A n c),(1,.func (.func fid) first cap),(5,.int .i64 ((j:Int)-1))]) (λj w'=>Ext w w'/\j<=n/\∀ k,j<=k->0<k->k<n->¬ fP ds (ps.getD k z0) (ps.getD (k-1) z0)<0) (λj=>j) n sO ⟨Ext.refl w,Nat.le_refl _,λk h1 _ h2=>by omega⟩ ?_;rintro j Z ⟨O,hj,U⟩;refine ρ ?_;refine ci (λh=>?_) (λh=>?_)
 ·have h2:2<=j:=by have:=oT h;omega
  have D:j-1<n:=by omega
  have u:j-2<n:=by omega
  refine ρ ?_;refine dr [(0,0),(0,1),(0,2),(0,3),(0,4),(0,5),(0,6),(0,7),(0,8),(0,9),(1,10),(0,11)] (by kernel_rfl) ?_;have i:Ext w Z.drew:=O.drew;have o:=hR.ext i;refine ρd ?_;refine dix (j-1) o D ?_;refine ρd ?_;refine dld (Qyq o hn D) ?_;refine ρd ?_;refine dix (j-2) o u ?_;refine ρd ?_;refine dld (Qyq o hn u) ?_;refine ρd ?_;refine Qjr (hC.none i (Jkn hn D) (Jkn hn u)) ?_;rintro r w2 ⟨rfl,C⟩;refine ⟨C,?_⟩;refine ρd ?_;refine ρ ?_;refine ci (λh=>?_) (λh=>?_)
  ·refine ρ ?_;refine Jjr ⟨i.trans C,false,rfl,⟨λe=>(by cases e),λe=>?_⟩⟩;have:=(Qfc (preP ds)).1 e (j-1) (by omega) D;exact absurd (oT h) this
  ·refine ρ ?_;refine Jjx (j-1) sO ⟨i.trans C,by omega,λk J G k3=>?_⟩ (by omega);by_cases e:k=j-1
   ·subst e;exact oF h
   ·exact U k (by omega) G k3
 ·refine ρ ?_;have h1:j<=1:=by have:=oF h;omega
  exact Jjr ⟨O,true,rfl,⟨λ_=>(Qfc (preP ds)).2 λk J G=>U k (by omega) J G,λ_=>rfl⟩⟩
theorem Qgd{P:Program}{w:World}{t e base n c k bytes:Nat}{z:Value}{A:Option Addr}{xs:List Value}(hE:ElT P t e 1 bytes z)(hz1:z.cells = #[z])(hz2:z.oneCell'=true)(h:w.ownsRow base e 1 (.slice A n c) n xs)(hk:k<=n)(ty:TypeId):
  ∃ w',(Builtin.clear_ #[t] ty #[.slice (if c=k then A else A.map (·.add (k*1))) (n-k) (c-k)]).run P w=.ok (.tuple #[]) w'/\w'.ownsRow base e 1 (.slice A k c) k (xs.take k)/\w.grownBy w' (Value.slice A n c).ownBlock:=by
 obtain ⟨i,hi,U,Z,a2⟩:=hE.info;obtain ⟨hl,O⟩:=h;have a1:xs.length=n:=by omega
 rcases Nat.eq_or_lt_of_le hk with e0|hlt
 ·subst e0;refine ⟨w,?_,?_,Jqf (Ext.refl w) _⟩
  ·rw [Nat.sub_self];generalize (if c=k then A else A.map (·.add (k*1)))=B
   cases B<;>simp [Builtin.clear_,run_underlying hE.sl]
  ·rw [List.take_of_length_le (by omega)];exact ⟨hl,O⟩
 ·rcases O with ⟨C,h0⟩|⟨g,cap,cur,C,hb,hg,hle,hmx,hcs,hcur⟩
  ·omega
  ·injection C with e1 e2 e3
   subst e1;subst e3;have J:¬ c=k:=by omega
   rw [if_neg J];have e4:(some (⟨g,0,none⟩:Addr)).map (·.add (k*1))=some ⟨g,k,none⟩:=by simp [Jzb]
   rw [e4];have o:=run_storeCells_at (P:=P) g k e (List.replicate (n-k) z) 0 cur w hg (by simp;omega) (λv C=>by rw [List.eq_of_mem_replicate C];exact hz2);refine ⟨w.setRow g (cur.toList.take (k+0)++List.replicate (n-k) z++cur.toList.drop (k+0+(List.replicate (n-k) z).length)).toArray,?_,?_,Jxs w g _⟩
   ·have G:∃ m,n-k=m+1:=⟨n-k-1,by omega⟩;obtain ⟨m,hm⟩:=G;have u:(Builtin.zeroCells z.cells (n-k)).toList=List.replicate (n-k) z:=by
     rw [hz1];simp only [Builtin.zeroCells];apply List.ext_getElem
     ·simp
     ·intro j h1 h2;simp [Nat.mod_one]
    rw [hm]at o u ⊢;have D:(zeroValue e).run P w=.ok z w:=by simp [zeroValue,typeInfo,hi,U]
    simp only [Nat.add_zero,List.length_replicate,List.append_assoc]at o ⊢;simp [Builtin.clear_,run_underlying hE.sl,D,u,o]
   ·simp only [Nat.add_zero,List.length_replicate];refine ⟨by rw [List.length_take];omega,.inr ⟨g,c,_,rfl,hb,setRow_heap w g cur _ e _ hg,by omega,hmx,?_,?_⟩⟩
    ·simp;omega
    ·simp only [Nat.mul_one]at hcur ⊢;rw [List.append_assoc,List.take_append_of_le_length (by simp;omega),<-hcur];conv=>rhs;rw [List.take_take]
     rw [List.take_take,Nat.min_self,Nat.min_eq_left (Nat.le_of_lt hlt)]
end Go.Proofs.YtefpailelagbkaaGreatDoor
namespace Go.Wk
section
variable {P:Program} {n:Nat} {al:AL} {w:World} {Q:Exit->Act->World->Prop} {ops:Array Oper} {rest:List Oper}
variable {ty:Nat} {pos:String} {aft:Array Edge}
theorem clr{x:Operand}{t:Nat}{v:Value}{w':World}(h:∀ ty,(Builtin.clear_ #[t] ty #[v]).run P w=.ok (.tuple #[]) w')(k:WL P n ops Q rest al w')(hx:ev al x=some v:=by rfl):
  WL P n ops Q (⟨none,.call { callee:=.builtin .clear,args:=#[x],argTypes:=#[t] },ty,pos,aft,none⟩::rest) al w:=λa i=>
 wpList_plain rfl λK j=>by
  unfold Oper.wp;have e:(execOp a.eval ⟨none,.call { callee:=.builtin .clear,args:=#[x],argTypes:=#[t] },ty,pos,aft,none⟩).run P w=.ok (.value (.tuple #[])) w':=by
   simp [execOp,resolve,invoke,builtin,i.ev hx,h ty]
  rw [e,Oper.upon_value];exact j _ _ (k _ i)
end
end Go.Wk
namespace Go.Proofs.YtefpailelagbkaaGreatDoor
open Go.RowKit Pl Go.Wk
attribute [local irreducible] WC WL QX WD WDB WP
def EqF(w:World)(row:Option Nat)(fid:FuncId)(first cap:Array Value)(M:List Pr): Prop :=
 ∀ w',w.grownBy w' row->∀ p q,p∈M->q∈M->Ret Tryz.prog fid (first.toList++[p.1,q.1]++cap.toList) w' λr w''=>r=.bool (decide (p.2=q.2))/\Ext w' w''
theorem Qhw{l:List Row}(h:l.length<2): ddF l=l:=by
 match l with
 | []=>rfl
 | [a]=>rfl
 | _::_::_=>exact absurd h (by simp)
theorem Jjp{α:Type}(z:α){l:List α}{k:Nat}(h:k<l.length): l.take (k+1)=l.take k++[l.getD k z]:=by
 rw [List.take_add_one,List.getElem?_eq_getElem h,Jjh z l h];rfl
theorem Dat.take{w:World}{base:Nat}{A:Option Addr}{n c k:Nat}{q:List Pr}(hq:q.length=n)(h1:∀ p∈q,p.1.oneCell'=true)(hk:k<=n)(h:w.ownsRow base 40 1 (.slice A k c) k ((q.map (·.1)).take k)): Dat w base (.slice A k c) (q.take k):=by
 refine ⟨?_,λp i=>h1 p (List.mem_of_mem_take i)⟩;rw [List.length_take,hq,Nat.min_eq_left hk,List.map_take];exact h
theorem Qzh{w:World}{base:Nat}{A:Option Addr}{n c:Nat}{fid:FuncId}{first cap:Array Value}{ps:List Pr}(hD:Dat w base (.slice A n c) ps)(hn:ps.length=n)(hmx:n<=1100000)(hnc:n<=c)(hC:EqF w (Value.slice A n c).ownBlock fid first cap ps):
  Ret Tryz.prog 119 [.slice A n c,.func (.func fid) first cap] w λv w'=>∃ ps':List Pr,v=.slice A ps'.length c/\Dat w' base (.slice A ps'.length c) ps'/\ps'.map (·.2)=ddF (ps.map (·.2))/\(∀ p∈ps',p∈ps)/\w.grownBy w' (Value.slice A n c).ownBlock:=by
 refine Jjc Tryz.func119 Tryz.ntmps119 rfl (by kernel_rfl) rfl ?_;obtain ⟨ls,C⟩:∃ ls:List Row,ls=ps.map (·.2):=⟨_,rfl⟩
 have aq:ls.length=n:=by rw [C];simpa using hn
 have u:∀ i,ls.getD i []=(ps.getD i z0).2:=λi=>by rw [C];exact Qwm
 refine ρ ?_;refine ci (λh=>?_) (λh=>?_)
 ·refine ρ ?_;refine Jjr ⟨ps,by rw [hn],by rw [hn];exact hD,?_,λp O=>O,Jqf (Ext.refl w) _⟩;rw [<-C,Qhw];have:=oT h;omega
 have h2:2<=n:=by have:=oF h;omega
 clear h;refine ρ ?_;refine Jqw (fun (j:Nat)=>[(0,.slice A n c),(1,.func (.func fid) first cap),(5,.int .i64 (j:Int))]) (λj w'=>Ext w w'/\1<=j/\j<=n/\ddF (ls.take j)=ls.take j) (λj=>n-j) 1 sB ⟨Ext.refl w,by omega,by omega,Qhw (by rw [List.length_take];omega)⟩ ?_;rintro j w1 ⟨hx,au,hj,hI⟩;refine ρ ?_;refine ci (λh=>?_) (λh=>?_);rotate_left
 ·have e:j=n:=by have:=oF h;omega
  refine ρ ?_;refine Jjr ⟨ps,by rw [hn],by rw [hn];exact hD.ext hx,?_,λp O=>O,Jqf hx _⟩;rw [<-C];rw [e,List.take_of_length_le (by omega)]at hI;exact hI.symm
 have lj:j<n:=by have:=oT h;omega
 have a4:j-1<n:=by omega
 clear h;refine ρ ?_;refine dr [(0,0),(0,1),(0,2),(0,3),(0,4),(0,5),(0,6),(0,7),(0,8),(0,9),(1,10)] (by kernel_rfl) ?_;have a6:Ext w w1.drew:=hx.drew;have a1:=hD.ext a6;refine ρd ?_;refine dix j (a1.rd hn) lj ?_;refine ρd ?_;refine dld (a1.cell hn lj) ?_;refine ρd ?_;refine dix (j-1) (a1.rd hn) a4 ?_;refine ρd ?_;refine dld (a1.cell hn a4) ?_;refine ρd ?_;refine Qjr (hC _ (Jqf a6 _) (ps.getD j z0) (ps.getD (j-1) z0) (Jkn hn lj) (Jkn hn a4)) ?_;rintro r w2 ⟨rfl,ac⟩;refine ⟨ac,?_⟩;have a5:=a6.trans ac;refine ρd ?_;refine ρ ?_;have o:=Qvc (l:=ls) (k:=j) (by omega);rw [u,u]at o;refine ci (λh=>?_) (λh=>?_);rotate_left
 ·have a7:=oF h;refine ρ ?_;refine Jjx (j+1) sO ⟨a5,by omega,by omega,?_⟩ (by omega);rw [o,if_neg (λe=>a7 e.2.symm),hI,Jjp [] (by omega),u]
 have a9:=oT h;clear h;rw [if_pos ⟨by omega,a9.symm⟩,hI]at o;have ao:=hD.ext a5;refine ρ ?_;refine sll j ?_;refine ρ ?_;refine Jxx (fun (k m:Nat) (q:List Pr)=>[(0,.slice A n c),(1,.func (.func fid) first cap),(5,.int .i64 (k:Int)),(6,.slice (if c=j then A else A.map (·.add (j*1))) (n-j) (c-j)),(7,.int .i64 ((m:Int)-(j:Int)))])
  (λk m q w'=>Dat w' base (.slice A n c) q/\q.length=n/\w.grownBy w' (Value.slice A n c).ownBlock/\j<m/\m<=n/\k<m/\(∀ i,k<=i->q.getD i z0=ps.getD i z0)/\(q.take k).map (·.2)=ddF (ls.take m)/\∀ p∈q,p∈ps) (λ_ m _=>n-m) j (j+1) ps sO
  ⟨ao,hn,Jqf a5 _,by omega,by omega,by omega,λ_ _=>rfl,by rw [List.map_take,<-C];exact o.symm,λp O=>O⟩ ?_
 rintro k m q w3 ⟨aa,hq,ag,ar,hm,hk,U,a8,D⟩;refine ρ ?_;refine ci (λh=>?_) (λh=>?_)
 ·have ad:m<n:=by have:=oT h;omega
  have lm:m-j<n-j:=by omega
  have aj:m-j-1<n-j:=by omega
  clear h;refine ρ ?_;refine dr [(0,0),(0,1),(0,2),(0,3),(0,4),(0,5),(0,6),(0,7),(0,8),(0,9),(1,10),(0,11)] (by kernel_rfl) ?_;have ab:Ext w3 w3.drew:=(Ext.refl w3).drew;have ai:=aa.ext ab;have af:=Jjt ag (Jqf ab _);have G:=(ai.rd hq).drop (k:=j) (c:=c) (by omega) hnc;have c1:((q.map (·.1)).drop (j*1))[m-j]?=some (ps.getD m z0).1:=by
   rw [List.getElem?_drop,show j*1+(m-j)=m by omega,Jtk (by omega),U m (by omega)]
  have c2:((q.map (·.1)).drop (j*1))[m-j-1]?=some (ps.getD (m-1) z0).1:=by
   rw [List.getElem?_drop,show j*1+(m-j-1)=m-1 by omega,Jtk (by omega),U (m-1) (by omega)]
  refine ρd ?_;refine dix (m-j) G lm ?_;refine ρd ?_;refine dld (G.cell c1) ?_;refine ρd ?_;refine dix (m-j-1) G aj ?_;refine ρd ?_;refine dld (G.cell c2) ?_;refine ρd ?_;refine Qjr (hC _ af (ps.getD m z0) (ps.getD (m-1) z0) (Jkn hn ad) (Jkn hn (by omega))) ?_;rintro r w7 ⟨rfl,J⟩;refine ⟨J,?_⟩;have Z:=ai.ext J;have ae:=Jjt af (Jqf J _);have ah:=G.ext J;refine ρd ?_;refine ρ ?_;have o:=Qvc (l:=ls) (k:=m) (by omega);rw [u,u]at o;refine ci (λh=>?_) (λh=>?_)
  ·have a7:(ps.getD m z0).2≠(ps.getD (m-1) z0).2:=by simpa using h
   have lk:k<n:=by omega
   have ap:(q.take k).length=k:=by rw [List.length_take];omega
   refine ρ ?_;refine ix (m-j) ah lm ?_;refine ρ ?_;refine ld (ah.cell c1) ?_;refine ρ ?_;refine ix k (Z.rd hq) lk ?_;refine ρ ?_;obtain ⟨s1,s2,s3⟩:=Z.store hq lk (p:=ps.getD m z0) (hD.one (by omega));refine sto (Z.cell hq lk) s1 ?_ (hv:=hD.one (by omega));refine ρ ?_;refine Jqc (k+1) (m+1) (q.set k (ps.getD m z0)) sO ⟨s2,by simpa using hq,Jjt ae s3,by omega,by omega,by omega,λi hi=>?_,?_,λp O=>?_⟩ (by omega)
   ·rw [Jbf z0 _ _ _ _ (by omega),if_neg (by omega)];exact U i (by omega)
   ·rw [o,if_neg (λe=>a7 e.2.symm),<-a8,Jjp z0 (by simp;omega),Jbf z0 _ _ _ _ (by omega),if_pos rfl,List.take_set_of_le (Nat.le_refl _),List.map_append];rfl
   ·rcases List.mem_or_eq_of_mem_set O with h'|h'
    ·exact D p h'
    ·rw [h'];exact Jkn hn ad
  ·have a9:(ps.getD m z0).2=(ps.getD (m-1) z0).2:=by simpa using h
   refine ρ ?_;refine Jqc k (m+1) q sO ⟨Z,hq,ae,by omega,by omega,by omega,U,?_,D⟩ (by omega);rw [o,if_pos ⟨by omega,a9.symm⟩,a8]
 ·have e:m=n:=by have:=oF h;omega
  subst e;have a3:=aa.1;rw [hq]at a3;obtain ⟨w8,ak,am,an⟩:=Qgd (P:=Tryz.prog) (k:=k) ER rfl rfl a3 (by omega) 0;refine ρ ?_;refine sll k ?_;refine ρ ?_;refine clr (w':=w8) (λty=>ak) ?_;refine ρ ?_;refine slh k ?_;refine ρ ?_;have a2:(q.take k).length=k:=by rw [List.length_take];omega
  refine Jjr ⟨q.take k,by rw [a2],by rw [a2];exact Dat.take hq aa.2 (by omega) am,?_,λp O=>D p (List.mem_of_mem_take O),Jjt ag an⟩;rw [a8,List.take_of_length_le (by omega),C]
open Go.RowKit Pl Go.Wk
def Jqz(v:V): Bool:=if v.kind=1 then (v.bytes == []) else if v.kind=2 then decide (v.num=0) && decide (v.bytes.length<=24) else false
theorem Jct(v:V): v.str.size=v.bytes.length:=(Array.length_toList (xs:=v.str.data)).symm
theorem Qtz(v:V): (v.str.toList == (⟨#[]⟩:ByteArray).toList)=(v.bytes == []):=by rw [ByteArray.toList_eq,ByteArray.toList_eq];rfl
theorem Jbm(v:V)(w:World): Ret Tryz.prog 149 [v.val] w λr w'=>r=.bool (Jqz v)/\Ext w w':=by
 refine Jjc Tryz.func149 Tryz.ntmps149 rfl (by kernel_rfl) rfl ?_;refine ρ ?_;refine bx (cs:=v.cells) ?_;intro D b j G o;refine ρ ?_;refine ld (o.at (i:=0) rfl) ?_;refine ρ ?_;refine ci (λh=>?_) (λh=>?_)
 ·refine ρ ?_;refine ld (o.at (i:=2) rfl) ?_;refine ρ ?_;refine Jjr ⟨?_,j⟩;rw [Jqz,if_pos (Jqn h),Qtz]
 refine ρ ?_;refine ci (λu=>?_) (λu=>?_)
 ·refine ρ ?_;refine ld (o.at (i:=1) rfl) ?_;refine ρ ?_;refine ki 15 (λC=>?_) (λC=>?_)
  ·refine ρ ?_;refine ld (o.at (i:=2) rfl) ?_;refine ρ ?_;refine Jjr ⟨?_,j⟩;rw [Jqz,if_neg (Jqk h),if_pos (Jqn u),decide_eq_true (Jqn C),Jct,Bool.true_and];congr 1
   exact decide_eq_decide.2 (by omega)
  ·refine ρ ?_;refine Jjr ⟨?_,j⟩;rw [Jqz,if_neg (Jqk h),if_pos (Jqn u),decide_eq_false (Jqk C)];rfl
 ·refine ρ ?_;refine Jjr ⟨?_,j⟩;rw [Jqz,if_neg (Jqk h),if_neg (Jqk u)]
theorem Jtj{v:Value}{r:Row}{w:World}(h:RowV w v r): Ret Tryz.prog 115 [v] w λu w'=>u=.bool (r.all Jqz)/\Ext w w':=by
 obtain ⟨A,c,rfl,h2,h3,O⟩:=h;refine Jjc Tryz.func115 Tryz.ntmps115 rfl (by kernel_rfl) rfl ?_;refine ρ ?_;refine Jqw (fun (k:Nat)=>[(0,.slice A r.length c),(5,.int .i64 (r.length:Int)),(6,.int .i64 (k:Int))]) (λk w'=>Ext w w'/\k<=r.length/\(r.take k).all Jqz=true) (λk=>r.length-k) 0 sB ⟨Ext.refl w,Nat.zero_le _,rfl⟩ ?_;rintro k Z ⟨C,hk,D⟩;refine ρ ?_;refine ci (λh=>?_) (λh=>?_)
 ·have lk:k<r.length:=by have:=oT h;omega
  have o:=O.ext C;refine ρ ?_;refine ixq 3 k o lk ?_;refine ρ ?_;refine lds (λj u J=>RdR.cell o lk J) ?_;refine ρ ?_;refine cl (Jbm (r.getD k V0) _) ?_;rintro u U ⟨rfl,i⟩;refine ρ ?_;refine ci (λh=>?_) (λh=>?_)
  ·refine ρ ?_;refine Jjr ⟨?_,C.trans i⟩;have G:Jqz (r.getD k V0)=false:=by simpa using h
   congr 1
   symm
   rw [List.all_eq_false];exact ⟨_,Qnx lk,by rw [G];decide⟩
  ·refine ρ ?_;have G:Jqz (r.getD k V0)=true:=by simpa using h
   refine Jjx (k+1) sO ⟨C.trans i,by omega,?_⟩ (by omega);rw [Jjp V0 lk,List.all_append,D,List.all_cons,G];rfl
 ·refine ρ ?_;refine Jjr ⟨?_,C⟩;rw [List.take_of_length_le (by have:=oF h;omega)]at D;rw [D]
def RelV(w:World)(v:Value)(ar:Nat)(ls:List Row): Prop:=∃ rv,v=.agg #[.int .i64 (ar:Int),rv]/\RowsV w rv ls
theorem RelV.ext{w w':World}{v:Value}{ar:Nat}{ls:List Row}(h:RelV w v ar ls)(hx:Ext w w'): RelV w' v ar ls:=by
 obtain ⟨i,e,h⟩:=h;exact ⟨i,e,h.ext hx⟩
theorem Qmh: Jxd Tryz.prog 67=some (.agg #[.int .i64 0,.slice none 0 0]):=by kernel_rfl
theorem Jsh(w:World): (Instr.build 67 #[]).run Tryz.prog w=.ok (.agg #[.int .i64 0,.slice none 0 0]) w:=by kernel_rfl
theorem Xxf(z:Int)(w:World): (Instr.build 67 #[(0,.int .i64 z)]).run Tryz.prog w=.ok (.agg #[.int .i64 z,.slice none 0 0]) w:=by kernel_rfl
theorem Xxd(z:Int)(A:Option Addr)(n c:Nat)(w:World): (Instr.build 67 #[(0,.int .i64 z),(1,.slice A n c)]).run Tryz.prog w=.ok (.agg #[.int .i64 z,.slice A n c]) w:=by kernel_rfl
theorem Qwd{z:Int}{A:Option Addr}{n c:Nat}: ∀ u∈[Value.int .i64 z,.slice A n c],u.oneCell'=true:=by
 intro u i;simp at i;rcases i with rfl|rfl<;>rfl
theorem Qyl(z:Int)(w:World): Ret Tryz.prog 76 [.int .i64 z] w λv w'=>Ext w w'/\∃ z' e,v=.tuple #[.agg #[.int .i64 z',.slice none 0 0],.int .i64 e]/\(e=0->z'=z)/\(e=0↔0<=z/\z<=32):=by
 refine Jjc Tryz.func76 Tryz.ntmps76 rfl (by kernel_rfl) rfl ?_;refine ρ ?_;refine alc Qmh ?_;intro G b o u C;refine ρ ?_;refine Jwr (fun (t:Bool)=>[(0,.int .i64 z),(2,.pointer (some ⟨b,0,none⟩)),(9,.bool t)]) (λt w'=>w'=G/\(t=true↔¬ (0<=z/\z<=32))) ?_ ?_
 ·refine ki 6 (λh=>?_) (λh=>?_)
  ·refine ρ ?_;exact Jjn true sB ⟨rfl,by have:=oT h;simp;omega⟩
  ·refine ρ ?_;refine Jjn _ sB ⟨rfl,?_⟩;have:=oF h;rw [decide_eq_true_iff];omega
 rintro t w' ⟨rfl,ht⟩;refine ci (λh=>?_) (λh=>?_)
 ·refine ρ ?_;refine bld (Jsh _) ?_;refine ρ ?_;refine stb C ?_ Qwd;intro D j _ i;refine ρ ?_;exact Jvr j ⟨i w o u,0,3,rfl,λe=>(by cases e),⟨λe=>(by cases e),λe=>absurd e (ht.1 h)⟩⟩
 ·refine ρ ?_;refine bld (Xxf z _) ?_;refine ρ ?_;refine stb C ?_ (Qwd (z:=z) (A:=none) (n:=0) (c:=0));intro D j _ i;refine ρ ?_;refine Jvr j ⟨i w o u,z,0,rfl,λ_=>rfl,⟨λ_=>?_,λ_=>rfl⟩⟩;by_cases hz:0<=z/\z<=32
  ·exact hz
  ·rw [ht.2 hz]at h;cases h
theorem Qzs{ar:Int}{sv v:Value}{r:Row}{A:Option Addr}{n c:Nat}{w:World}(hs:sv=.slice A n c)(h:RowV w v r): Ret Tryz.prog 77 [.agg #[.int .i64 ar,sv],v] w λu w'=>Ext w w'/\∃ e,u=.int .i64 e/\(e=0↔(r.length:Int)=ar/\r.all Jqz=true):=by
 subst hs;obtain ⟨B,c',rfl,C,h3,Z⟩:=id h;refine Jjc Tryz.func77 Tryz.ntmps77 rfl (by kernel_rfl) rfl ?_;refine ρ ?_;refine bx ?_;intro U b j hb D;refine ρ ?_;refine ld (D.at (i:=0) rfl) ?_;refine ρ ?_;refine ci (λh=>?_) (λG=>?_)
 ·refine ρ ?_;exact Jjr ⟨j,6,rfl,⟨λe=>(by cases e),λe=>absurd e.1 (Jwp h)⟩⟩
 have J:=Jwq G;refine ρ ?_;refine cl (Jtj (h.ext j)) ?_;rintro u O ⟨rfl,o⟩;refine ρ ?_;refine ci (λh=>?_) (λC=>?_)
 ·refine ρ ?_;refine Jjr ⟨j.trans o,4,rfl,⟨λe=>(by cases e),λe=>?_⟩⟩;rw [e.2]at h;cases h
 ·refine ρ ?_;refine Jjr ⟨j.trans o,0,rfl,⟨λ_=>⟨J,by simpa using C⟩,λ_=>rfl⟩⟩
end Go.Proofs.YtefpailelagbkaaGreatDoor
