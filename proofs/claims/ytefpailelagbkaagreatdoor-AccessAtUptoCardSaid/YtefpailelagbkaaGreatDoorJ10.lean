/- Part 10 of the proof: Of, Cpt, Cpt2. -/
import Derived.Test.YtefpailelagbkaaGreatDoorJ09
import Derived.Laws.CopyRow
set_option linter.unusedVariables false
set_option maxRecDepth 100000
set_option maxHeartbeats 40000000
namespace Go.Proofs.YtefpailelagbkaaGreatDoor
open Go.RowKit Pl Go.Wk
attribute [local irreducible] WC WL QX WD WDB WP
def RowX(w:World)(N:Nat->Prop)(v:Value)(r:List V): Prop:=∃ A c,v=.slice A r.length c/\r.length<=c/\r.length<=1100000/\RdR w A r/\(r≠[]->∀ ad,A=some ad->¬ N ad.block)
def one(g:Option Nat)(k:Nat): Prop:=g=some k
theorem RowX.v{w:World}{N:Nat->Prop}{v:Value}{r:List V}(h:RowX w N v r): RowV w v r:=by
 obtain ⟨A,c,h1,h2,h3,h4,_⟩:=h;exact ⟨A,c,h1,h2,h3,h4⟩
theorem RowX.ext{w w':World}{N:Nat->Prop}{v:Value}{r:List V}(h:RowX w N v r)(hx:Ext w w'): RowX w' N v r:=by
 obtain ⟨A,c,h1,h2,h3,h4,h5⟩:=h;exact ⟨A,c,h1,h2,h3,h4.ext hx,h5⟩
theorem RowX.mono{w:World}{N N':Nat->Prop}{v:Value}{r:List V}(h:RowX w N v r)(hN:∀ k,k<w.heap.size->N' k->N k): RowX w N' v r:=by
 obtain ⟨A,c,h1,h2,h3,h4,h5⟩:=h;refine ⟨A,c,h1,h2,h3,h4,λh0 ad e hn=>h5 h0 ad e (hN _ ?_ hn)⟩;obtain ⟨ad',e7,e8⟩:=Rd.isome h4 (List.length_pos_iff.2 h0) (by omega);rw [e]at e7;injection e7 with e7;subst e7;exact e8
theorem RowX.grown{w w':World}{N:Nat->Prop}{g:Option Nat}{v:Value}{r:List V}(h:RowX w N v r)(hg:w.grownBy w' g)(hN:∀ k,g=some k->N k): RowX w' N v r:=by
 obtain ⟨A,c,h1,h2,h3,h4,h5⟩:=h;refine ⟨A,c,h1,h2,h3,?_,h5⟩;by_cases h0:r=[]
 ·subst h0;exact Rd.nil
 ·exact Rd.grown h4 hg (λad e e2=>h5 h0 ad e (hN _ e2))
theorem RowX.nil(w:World)(N:Nat->Prop): RowX w N (.slice none 0 0) []:=⟨none,0,rfl,by simp,by simp,Rd.nil,λh=>absurd rfl h⟩
def RowsV(w:World)(v:Value)(ls:List (List V)): Prop:=∃ (ps:List Pr) (A:Option Addr) (c:Nat),ls=ps.map (·.2)/\v=.slice A ps.length c/\ps.length<=c/\ps.length<=1100000/\Rd w 1 A ps.length (ps.map (·.1))/\∀ p∈ps,RowV w p.1 p.2
theorem RowsV.ext{w w':World}{v:Value}{ls:List (List V)}(h:RowsV w v ls)(hx:Ext w w'): RowsV w' v ls:=by
 obtain ⟨ps,A,c,h1,h2,h3,h4,h5,h6⟩:=h;exact ⟨ps,A,c,h1,h2,h3,h4,h5.ext hx,λp hp=>(h6 p hp).ext hx⟩
theorem RowV.one{w:World}{v:Value}{r:List V}(h:RowV w v r): v.oneCell'=true:=by obtain ⟨A,c,rfl,_⟩:=h;rfl
theorem Qjg{v:Value}{r:List V}{w:World}(h:RowV w v r)(N:Nat->Prop)(hg:∀ k,N k->k<w.heap.size):
  Ret Tryz.prog 68 [v] w λv' w'=>RowX w' N v' r/\Ext w w':=by
 obtain ⟨A,c,rfl,h2,h3,hr⟩:=h;refine Jjb Tryz.func68 Tryz.ntmps68 rfl (by kernel_rfl) rfl ?_;refine ρ ?_;refine snil ?_;refine ρ ?_;refine ci (λh=>?_) (λh=>?_)
 ·have hA:A=none:=by simpa using h
  subst hA;have hn:r.length=0:=by
   rcases Nat.eq_zero_or_pos r.length with h0|h0
   ·exact h0
   ·obtain ⟨ad,h2,_⟩:=hr.isome h0 (by omega);cases h2
  obtain rfl:=List.eq_nil_of_length_eq_zero hn;refine ρ ?_;exact Jjq ⟨RowX.nil w N,Ext.refl w⟩
 ·refine ρ ?_;refine bsl bs0Row ?_;intro w1 b hx1 hb1 hk1;refine ρ ?_;refine apo hx1 EV (hk1.own (n:=0) hb1 rfl (Nat.zero_le _)) (hr.ext hx1) (rowC_one r) (by unfold maxLen;omega) (by omega) ?_;intro v2 w2 ho2 hx2 _ _;obtain ⟨A2,c2,rfl,hc2,hf⟩:=Jjd ho2;refine ρ ?_;rw [Nat.zero_add]at ho2 hc2 ⊢;refine Jjq ⟨⟨A2,c2,rfl,hc2,h3,Rd.own ho2,λ_ ad e=>?_⟩,hx2⟩;subst e;intro e2;have h4:=hg _ e2;have h5:=(hf ad.block rfl).1;omega
theorem Pr.rep(n:Nat): (List.replicate n ((.slice none 0 0,[]):Pr)).map (·.1)=List.replicate n (.slice none 0 0):=by simp
def Srt(ds:List Bool)(ls:List (List V)): Prop:=ls.Pairwise λa b=>Jxh a b ds<=0
theorem srt_of{ds:List Bool}{ps:List Pr}(h:SOn z0 (fP ds) ps 0 ps.length): Srt ds (ps.map (·.2)):=by
 unfold Srt;rw [List.pairwise_map,List.pairwise_iff_getElem];intro i j hi hj hij;have:=h i j (Nat.zero_le _) hij hj;rw [Jjh z0 ps hi,Jjh z0 ps hj]at this;exact this
end Go.Proofs.YtefpailelagbkaaGreatDoor
namespace Go.Proofs.YtefpailelagbkaaGreatDoor
open Pl
abbrev Row:= List V
def Lt(ds:List Bool)(ls:List Row): Prop:=ls.Pairwise λa b=>Jxh a b ds<0
def Jvm(ds:List Bool)(ls m:List Row): Prop:=Lt ds m/\∀ x,x∈m↔x∈ls
theorem lt_irr(ds:List Bool)(a:Row): ¬ Jxh a a ds<0:=by rw [Jxr];omega
theorem lt_asym{ds:List Bool}{a b:Row}(h:Jxh a b ds<0): ¬ Jxh b a ds<0:=by rw [cmpR_anti a b];omega
theorem Qjl{ds:List Bool}: ∀ {l m:List Row},Lt ds l->Lt ds m->(∀ x,x∈l↔x∈m)->l=m
 | [],[],_,_,_=>rfl
 | [],b::m,_,_,h=>absurd ((h b).2 (List.mem_cons_self ..)) (by simp)
 | a::l,[],_,_,h=>absurd ((h a).1 (List.mem_cons_self ..)) (by simp)
 | a::l,b::m,h1,h2,h=>by
  have p1:=List.pairwise_cons.1 h1;have p2:=List.pairwise_cons.1 h2;have hab:a=b:=by
   rcases List.mem_cons.1 ((h a).1 (List.mem_cons_self ..)) with e|e
   ·exact e
   ·rcases List.mem_cons.1 ((h b).2 (List.mem_cons_self ..)) with e2|e2
    ·exact e2.symm
    ·exact absurd (p1.1 _ e2) (lt_asym (p2.1 _ e))
  subst hab;congr 1
  refine Qjl p1.2 p2.2 λx=>?_;have hx:=h x;constructor
  ·intro hm;rcases List.mem_cons.1 (hx.1 (List.mem_cons_of_mem _ hm)) with e|e
   ·subst e;exact absurd (p1.1 _ hm) (lt_irr ds x)
   ·exact e
  ·intro hm;rcases List.mem_cons.1 (hx.2 (List.mem_cons_of_mem _ hm)) with e|e
   ·subst e;exact absurd (p2.1 _ hm) (lt_irr ds x)
   ·exact e
def ddS(out:List Row)(x:Row): List Row:=if out.getLast?=some x then out else out++[x]
def ddF(l:List Row): List Row:=l.foldl ddS []
theorem ddF_snoc(l:List Row)(x:Row): ddF (l++[x])=ddS (ddF l) x:=by simp [ddF,List.foldl_append]
theorem ddS_last(out:List Row)(x:Row): (ddS out x).getLast?=some x:=by
 unfold ddS;split
 ·assumption
 ·simp
theorem getLast_mem'{l:List Row}{x:Row}(h:l.getLast?=some x): x∈l:=by
 rw [List.getLast?_eq_some_iff]at h;obtain ⟨ys,rfl⟩:=h;simp
theorem dd_fold{ds:List Bool}: ∀ (l out:List Row),Lt ds out->(∀ a∈out,∀ b∈l,Jxh a b ds<=0)->Srt ds l->Lt ds (l.foldl ddS out)/\∀ x,x∈l.foldl ddS out↔(x∈out∨x∈l)
 | [],out,h,_,_=>⟨h,λx=>by simp⟩
 | y::l,out,h,hle,hs=>by
  have p:=List.pairwise_cons.1 hs;simp only [List.foldl_cons];by_cases e:out.getLast?=some y
  ·have hy:=getLast_mem' e;have e1:ddS out y=out:=by unfold ddS;rw [if_pos e]
   rw [e1];obtain ⟨k1,k2⟩:=dd_fold l out h (λa ha b hb=>hle a ha b (List.mem_cons_of_mem _ hb)) p.2;refine ⟨k1,λx=>(k2 x).trans ?_⟩;constructor
   ·rintro (h'|h')
    ·exact .inl h'
    ·exact .inr (List.mem_cons_of_mem _ h')
   ·rintro (h'|h')
    ·exact .inl h'
    ·rcases List.mem_cons.1 h' with rfl|h'
     ·exact .inl hy
     ·exact .inr h'
  ·have e1:ddS out y=out++[y]:=by unfold ddS;rw [if_neg e]
   rw [e1];have hlt:∀ a∈out,Jxh a y ds<0:=by
    intro a ha;have h1:=hle a ha y (List.mem_cons_self ..);rcases Int.lt_or_eq_of_le h1 with h2|h2
    ·exact h2
    ·exfalso
     have:=Jvz _ _ _ h2;subst this
     -- a is in out,and everything in out is below a;so a is the last
     obtain ⟨z,hz⟩:∃ z,out.getLast?=some z:=by
      cases hq:out.getLast? with
      | none=>rw [List.getLast?_eq_none_iff]at hq;rw [hq]at ha;cases ha
      | some z=>exact ⟨z,rfl⟩
     rw [List.getLast?_eq_some_iff]at hz;obtain ⟨ys,rfl⟩:=hz;rcases List.mem_append.1 ha with h3|h3
     ·have h4:=(List.pairwise_append.1 h).2.2 _ h3 z (by simp);have h5:=hle z (by simp) a (List.mem_cons_self ..);exact absurd ((cmp_R ds).lt_le h4 h5) (lt_irr ds a)
     ·rw [List.mem_singleton.1 h3]at e;simp at e
   obtain ⟨k1,k2⟩:=dd_fold l (out++[y]) (List.pairwise_append.2 ⟨h,List.pairwise_singleton _ _,λa ha b hb=>by rw [List.mem_singleton.1 hb];exact hlt a ha⟩) (λa ha b hb=>by
    rcases List.mem_append.1 ha with h'|h'
    ·exact hle a h' b (List.mem_cons_of_mem _ hb)
    ·rw [List.mem_singleton.1 h'];exact p.1 b hb) p.2
   refine ⟨k1,λx=>(k2 x).trans ?_⟩;rw [List.mem_append,List.mem_singleton,List.mem_cons,or_assoc]
theorem dd_len: ∀ (l out:List Row),(l.foldl ddS out).length<=out.length+l.length
 | [],out=>by simp
 | y::l,out=>by
  simp only [List.foldl_cons];have:=dd_len l (ddS out y);have h2:(ddS out y).length<=out.length+1:=by unfold ddS;split<;>simp
  simp only [List.length_cons];omega
theorem ddF_len(l:List Row): (ddF l).length<=l.length:=by have:=dd_len l [];simpa [ddF] using this
theorem ddF_set{ds:List Bool}{l:List Row}(h:Srt ds l): Jvm ds l (ddF l):=by
 obtain ⟨h1,h2⟩:=dd_fold l [] List.Pairwise.nil (λa ha=>by cases ha) h;exact ⟨h1,λx=>(h2 x).trans (by simp)⟩
theorem ddF_take{l:List Row}{k:Nat}(hk:k<l.length): ddF (l.take (k+1))=if k≠0/\l.getD (k-1) []=l.getD k [] then ddF (l.take k) else ddF (l.take k)++[l.getD k []]:=by
 rw [List.take_succ_eq_append_getElem hk,ddF_snoc,<-Jjh [] l hk];unfold ddS;by_cases h0:k=0
 ·subst h0;rw [if_neg (by simp [ddF]),if_neg (by simp)]
 ·have hk1:k-1<l.length:=by omega
  have e:ddF (l.take k)=ddS (ddF (l.take (k-1))) (l.getD (k-1) []):=by
   have:=List.take_succ_eq_append_getElem hk1;rw [show k-1+1=k by omega]at this;rw [this,ddF_snoc,Jjh [] l hk1]
  rw [e,ddS_last];by_cases h1:l.getD (k-1) []=l.getD k []
  ·rw [if_pos (by rw [h1]),if_pos ⟨h0,h1⟩]
  ·rw [if_neg (by simpa using h1),if_neg (λh=>h1 h.2)]
def cnt(ds:List Bool)(l:List Row)(r:Row): Nat:=(l.filter λx=>decide (Jxh x r ds<0)).length
theorem cnt_le(ds:List Bool)(l:List Row)(r:Row): cnt ds l r<=l.length:=List.length_filter_le _ _
theorem Lt.at{ds:List Bool}{l:List Row}(h:Lt ds l){i j:Nat}(hij:i<j)(hj:j<l.length): Jxh (l.getD i []) (l.getD j []) ds<0:=by
 have:=List.pairwise_iff_getElem.1 h i j (by omega) hj hij;rw [Jjh [] l hj,Jjh [] l (by omega)];exact this
theorem cnt_take{ds:List Bool}{l:List Row}{r:Row}{k:Nat}(hk:k<=l.length)(hlo:∀ i,i<k->Jxh (l.getD i []) r ds<0)(hhi:∀ i,k<=i->i<l.length->¬ Jxh (l.getD i []) r ds<0): cnt ds l r=k:=by
 unfold cnt;have e:l=l.take k++l.drop k:=(List.take_append_drop k l).symm;rw [e,List.filter_append,List.length_append];have h1:(l.take k).filter (λx=>decide (Jxh x r ds<0))=l.take k:=by
  rw [List.filter_eq_self];intro x hx;obtain ⟨i,hi,rfl⟩:=List.getElem_of_mem hx;have hik:i<k:=by simp at hi;omega
  have:=hlo i hik;rw [Jjh [] l (by omega)]at this;simpa using this
 have h2:(l.drop k).filter (λx=>decide (Jxh x r ds<0))=[]:=by
  rw [List.filter_eq_nil_iff];intro x hx;obtain ⟨i,hi,rfl⟩:=List.getElem_of_mem hx;have hik:k+i<l.length:=by simp at hi;omega
  have:=hhi (k+i) (by omega) hik;rw [Jjh [] l hik]at this;simpa using this
 rw [h1,h2];simp;omega
theorem rank_at{ds:List Bool}{l:List Row}(h:Lt ds l){r:Row}{k:Nat}(hk:k<=l.length)(hlo:k=0∨Jxh (l.getD (k-1) []) r ds<0)(hhi:k=l.length∨¬ Jxh (l.getD k []) r ds<0):
  cnt ds l r=k/\(r∈l↔k<l.length/\l.getD k []=r):=by
 have lo:∀ i,i<k->Jxh (l.getD i []) r ds<0:=λi hi=>by
  rcases hlo with h0|h0
  ·omega
  ·by_cases e:i=k-1
   ·rw [e];exact h0
   ·exact (cmp_R ds).lt_trans (h.at (i:=i) (j:=k-1) (by omega) (by omega)) h0
 have hi:∀ i,k<=i->i<l.length->¬ Jxh (l.getD i []) r ds<0:=λi h1 h2=>by
  rcases hhi with h0|h0
  ·omega
  ·by_cases e:i=k
   ·rw [e];exact h0
   ·exact λh3=>h0 ((cmp_R ds).lt_trans (h.at (i:=k) (j:=i) (by omega) h2) h3)
 refine ⟨cnt_take hk lo hi,λhm=>?_,λ⟨h1,h2⟩=>?_⟩
 ·obtain ⟨j,hj,he⟩:=List.getElem_of_mem hm;rw [<-Jjh [] l hj]at he;have hjk:k<=j:=by
   rcases Nat.lt_or_ge j k with h1|h1
   ·exact absurd (he ▸ lo j h1) (lt_irr ds r)
   ·exact h1
  have:j=k:=by
   rcases Nat.lt_or_ge k j with h1|h1
   ·exact absurd (he ▸ h.at h1 hj) (hi k (Nat.le_refl _) (by omega))
   ·omega
  subst this;exact ⟨hj,he⟩
 ·rw [<-h2];exact getD_mem' [] l h1
def putL(ds:List Bool)(l:List Row)(r:Row): List Row:=if r∈l then l else l.take (cnt ds l r)++r::l.drop (cnt ds l r)
theorem put_set{ds:List Bool}{l ls:List Row}{r:Row}(h:Jvm ds ls l): Jvm ds (ls++[r]) (putL ds l r):=by
 unfold putL;split
 ·rename_i hm;refine ⟨h.1,λx=>?_⟩;rw [List.mem_append,List.mem_singleton,<-h.2 x];exact ⟨.inl,λh'=>h'.elim id λe=>e ▸ hm⟩
 ·rename_i hm;have hkle:=cnt_le ds l r
  -- what is below the place is smaller,what is above is greater
  have hall:∃ k,cnt ds l r=k/\k<=l.length/\(∀ i,i<k->Jxh (l.getD i []) r ds<0)/\(∀ i,k<=i->i<l.length->¬ Jxh (l.getD i []) r ds<0):=by
   have ex:∀ n,n<=l.length->∃ k,k<=n/\(∀ i,i<k->Jxh (l.getD i []) r ds<0)/\(k=n∨¬ Jxh (l.getD k []) r ds<0):=by
    intro n;induction n with
    | zero=>exact λ_=>⟨0,Nat.le_refl _,λi hi=>by omega,.inl rfl⟩
    | succ n ih=>
     intro hn;obtain ⟨k,k1,k2,k3⟩:=ih (by omega);rcases k3 with k3|k3
     ·subst k3;by_cases h0:Jxh (l.getD k []) r ds<0
      ·exact ⟨k+1,Nat.le_refl _,λi hi=>by
        by_cases e:i=k
        ·rw [e];exact h0
        ·exact k2 i (by omega),.inl rfl⟩
      ·exact ⟨k,by omega,k2,.inr h0⟩
     ·exact ⟨k,by omega,k2,.inr k3⟩
   obtain ⟨k,k1,k2,k3⟩:=ex l.length (Nat.le_refl _);have hi:∀ i,k<=i->i<l.length->¬ Jxh (l.getD i []) r ds<0:=λi h1 h2=>by
    rcases k3 with k3|k3
    ·omega
    ·by_cases e:i=k
     ·rw [e];exact k3
     ·exact λh3=>k3 ((cmp_R ds).lt_trans (h.1.at (i:=k) (j:=i) (by omega) h2) h3)
   exact ⟨k,cnt_take k1 k2 hi,k1,k2,hi⟩
  obtain ⟨k,hk,k1,k2,k3⟩:=hall;rw [hk];have hlt:=h.1;refine ⟨?_,λx=>?_⟩
  ·unfold Lt at hlt ⊢;rw [List.pairwise_append];refine ⟨hlt.sublist (List.take_sublist _ _),List.pairwise_cons.2 ⟨λb hb=>?_,hlt.sublist (List.drop_sublist _ _)⟩,λa ha b hb=>?_⟩
   ·obtain ⟨i,hi,rfl⟩:=List.getElem_of_mem hb;have hik:k+i<l.length:=by simp at hi;omega
    have:=k3 (k+i) (by omega) hik;rw [Jjh [] l hik]at this;rw [List.getElem_drop];rcases (cmp_R ds).tot l[k+i] r with e|e|e
    ·exact absurd e this
    ·exact absurd (e ▸ List.getElem_mem hik) hm
    ·exact e
   ·obtain ⟨i,hi,rfl⟩:=List.getElem_of_mem ha;have hik:i<k:=by simp at hi;omega
    have h1:=k2 i hik;rw [Jjh [] l (by omega)]at h1;rw [List.getElem_take];rcases List.mem_cons.1 hb with rfl|hb
    ·exact h1
    ·obtain ⟨j,hj,rfl⟩:=List.getElem_of_mem hb;have hjk:k+j<l.length:=by simp at hj;omega
     rw [List.getElem_drop];have:=h.1.at (i:=i) (j:=k+j) (by omega) hjk;rw [Jjh [] l hjk,Jjh [] l (by omega)]at this;exact this
  ·rw [List.mem_append,List.mem_cons,List.mem_append,List.mem_singleton,<-h.2 x];have e:x∈l↔x∈l.take k∨x∈l.drop k:=by
    conv=>lhs;rw [<-List.take_append_drop k l]
    exact List.mem_append
   rw [e];constructor
   ·rintro (h'|h'|h')
    ·exact .inl (.inl h')
    ·exact .inr h'
    ·exact .inl (.inr h')
   ·rintro ((h'|h')|h')
    ·exact .inl h'
    ·exact .inr (.inr h')
    ·exact .inr (.inl h')
open Go.RowKit Pl Go.Wk
attribute [local irreducible] WC WL QX WD WDB WP
theorem bs1Row(v:Value)(w:World)(A:Option Addr)(n c:Nat)(hv:v=.slice A n c): (Instr.buildSlice 35 1 #[(0,v)]).run Tryz.prog w=.ok (.slice (some ⟨w.heap.size,0,none⟩) 1 1) (w.alloc (.cells [v].toArray 40)):=by
 subst hv;kernel_rfl
theorem ls_get{ps:List Pr}{i:Nat}: (ps.map (·.2)).getD i []=(ps.getD i z0).2:=by
 simp only [List.getD,List.getElem?_map];cases ps[i]?<;>rfl
def own(base:Nat)(v:Value)(k:Nat): Prop:=k<base∨v.ownBlock=some k
def OwnR(w:World)(base:Nat)(v:Value)(ls:List Row): Prop:=∃ ps:List Pr,ls=ps.map (·.2)/\w.ownsRow base 40 1 v ps.length (ps.map (·.1))/\∀ p∈ps,RowX w (own base v) p.1 p.2
theorem OwnR.nil(w:World)(base:Nat): OwnR w base (.slice none 0 0) []:=⟨[],rfl,Jxk _ _ _ _,λp hp=>by cases hp⟩
theorem OwnR.ext{w w':World}{base:Nat}{v:Value}{ls:List Row}(h:OwnR w base v ls)(hx:Ext w w'): OwnR w' base v ls:=by
 obtain ⟨ps,h1,h2,h3⟩:=h;exact ⟨ps,h1,Jjc h2 hx,λp hp=>(h3 p hp).ext hx⟩
theorem OwnR.rows{w:World}{base:Nat}{v:Value}{ls:List Row}(h:OwnR w base v ls)(hm:ls.length<=1100000): RowsV w v ls:=by
 obtain ⟨ps,rfl,h2,h3⟩:=h;obtain ⟨A,c,rfl,hc,_⟩:=Jjd h2;exact ⟨ps,A,c,rfl,rfl,hc,by simpa using hm,Rd.own h2,λp hp=>(h3 p hp).v⟩
theorem OwnR.lt{w:World}{base:Nat}{v:Value}{ls:List Row}(h:OwnR w base v ls): ∀ k,v.ownBlock=some k->base<=k/\k<w.heap.size:=by
 obtain ⟨ps,rfl,h2,h3⟩:=h;obtain ⟨A,c,rfl,hc,hf⟩:=Jjd h2;exact hf
theorem appR{P:Program}{n:Nat}{al:AL}{w:World}{Q:Exit->Act->World->Prop}{ops:Array Oper}{rest:List Oper}{d ty:Nat}{pos:String}{aft:Array Edge}{a:World}(hxa:Ext a w){x y:Operand}{v:Value}{ls:List Row}{b:Nat}{vr:Value}{r:Row}(hE:ElT P 35 40 1 24 (.slice none 0 0))(ho:OwnR w a.heap.size v ls)(hb:Blk w b 40 [vr])(hr:RowX w (own a.heap.size v) vr r)(hm:ls.length<=1100000)(kk:∀ v' w',OwnR w' a.heap.size v' (ls++[r])->Ext a w'->w.grownBy w' v.ownBlock->WL P n ops Q rest ((d,v')::al) w')(hx:ev al x=some v:=by rfl)(hy:ev al y=some (.slice (some ⟨b,0,none⟩) 1 1):=by rfl)(hd:Nat.blt d n=true:=by rfl):
  WL P n ops Q (⟨some d,.call { callee:=.builtin .append,args:=#[x,y],argTypes:=#[35,35] },ty,pos,aft,none⟩::rest) al w:=by
 obtain ⟨ps,rfl,h2,h3⟩:=ho;have hone:vr.oneCell'=true:=hr.v.one;refine apo hxa hE h2 hb.one (λu hu=>by rw [List.mem_singleton.1 hu];exact hone) (by unfold maxLen;simp at hm;omega) (by simp at hm;omega) ?_ hx hy hd;intro v' w' ho' hx' hg' hn';have hnew:∀ (p:Pr),RowX w (own a.heap.size v) p.1 p.2->RowX w' (own a.heap.size v') p.1 p.2:=λp hp=>by
  have h1:=hp.mono (N':=λk=>own a.heap.size v k∨own a.heap.size v' k) (λk hk h=>by
   rcases h with h|h|h
   ·exact h
   ·exact .inl h
   ·rcases hn' k h with h4|h4
    ·exact .inr h4
    ·omega)
  obtain ⟨A,c,e1,e2,e3,e4,e5⟩:=h1.grown hg' (λk hk=>.inl (.inr hk));exact ⟨A,c,e1,e2,e3,e4,λh0 ad e hn=>e5 h0 ad e (.inr hn)⟩
 refine kk v' w' ⟨ps++[(vr,r)],by simp,?_,λp hp=>?_⟩ hx' hg'
 ·rw [List.length_append,List.map_append];exact ho'
 ·rcases List.mem_append.1 hp with h'|h'
  ·exact hnew p (h3 p h')
  ·rw [List.mem_singleton.1 h'];exact hnew (vr,r) hr
theorem RowsV.parts{w:World}{v:Value}{ls:List Row}(h:RowsV w v ls): ∃ A c,v=.slice A ls.length c/\ls.length<=c/\ls.length<=1100000/\∃ cs:List Value,Rd w 1 A ls.length cs/\∀ i,i<ls.length->∃ u,cs[i]?=some u/\RowV w u (ls.getD i []):=by
 obtain ⟨ps,A,c,rfl,rfl,h3,h4,h5,h6⟩:=h;refine ⟨A,c,by simp,by simpa using h3,by simpa using h4,ps.map (·.1),by simpa using h5,λi hi=>?_⟩
 have hi':i<ps.length:=by simpa using hi
 exact ⟨_,ps_get hi',by rw [ls_get];exact h6 _ (getD_mem' z0 ps hi')⟩
open Go.RowKit Pl Go.Wk
theorem pdqSmall_any{w:World}{base:Nat}{A:Option Addr}{n c:Nat}{fid:FuncId}{first cap:Array Value}{ps:List Pr}{ds:List Bool}(hD:Dat w base (.slice A n c) ps)(hn:ps.length=n)(hC:CF w (Value.slice A n c).ownBlock fid first cap ps ds)(h12:n<=12){lim:Int}:
  Ret Tryz.prog 150 [.slice A n c,.int .i64 0,.int .i64 (n:Int),.int .i64 lim,.func (.func fid) first cap] w λv w'=>∃ ps',DP w w' base A n c ps ps'/\SOn z0 (fP ds) ps' 0 n:=by
 refine Jjb Tryz.func150 Tryz.ntmps150 rfl (by kernel_rfl) rfl ?_;refine ρ ?_;refine Jqp (fun (_:Unit)=>[(0,.slice A n c),(1,.int .i64 0),(2,.int .i64 (n:Int)),(3,.int .i64 lim),(4,.func (.func fid) first cap)]) (λ_ w'=>w'=w) (λ_=>0) () sB rfl ?_;rintro _ w' rfl;refine ρ ?_;refine ct ?_ ?_
 ·exact decide_eq_true (by omega)
 refine ρ ?_;refine cl (insertion_any (a:=0) (ai:=0) (bi:=(n:Int)) hD hn rfl rfl (Nat.le_refl _) (by omega) (by omega) hC.pack) ?_;rintro v w2 ⟨q2,k1,k2,k3,k4⟩;refine ρ ?_;exact fin0 ⟨q2,(DP.start hD hn).ins k1 k2 k4,k3⟩
theorem sortFunc_any{w:World}{base:Nat}{A:Option Addr}{n c:Nat}{fid:FuncId}{first cap:Array Value}{ps:List Pr}{ds:List Bool}(hD:Dat w base (.slice A n c) ps)(hn:ps.length=n)(hmx:n<=1100000)(hC:CF w (Value.slice A n c).ownBlock fid first cap ps ds):
  Ret Tryz.prog 118 [.slice A n c,.func (.func fid) first cap] w λv w'=>∃ ps',DP w w' base A n c ps ps'/\(n<=12->SOn z0 (fP ds) ps' 0 n):=by
 refine Jjb Tryz.func118 Tryz.ntmps118 rfl (by kernel_rfl) rfl ?_;refine ρ ?_;refine kv 10 (u:=.int .u64 (n:Int)) (congrArg (Value.int .u64) (u64w (by omega))) ?_;refine cl (bitsLen_any n (by omega) w) ?_;rintro v w' ⟨rfl,rfl⟩;refine ρ ?_;have l3:Jkz n<=48:=lenB_le (by omega);by_cases h12:n<=12
 ·refine cl (pdqSmall_any hD hn hC h12) ?_;rintro v w2 ⟨q,H,hs⟩;refine ρ ?_;exact finE ⟨q,H,λ_=>hs⟩
 ·refine cl (pdq_any n (a:=0) (b:=n) (ai:=0) (bi:=(n:Int)) (lim:=(Jkz n:Int)) hD hn (by omega) hC rfl rfl (by omega) (Nat.le_refl _) (by omega) (by omega)) ?_;rintro v w2 ⟨q,H⟩;refine ρ ?_;exact finE ⟨q,H,λh=>absurd h h12⟩
theorem son_adj{α:Type}{z:α}{f:α->α->Int}(hf:PreC f){q:List α}{n:Nat}: SOn z f q 0 n↔∀ k,0<k->k<n->¬ f (q.getD k z) (q.getD (k-1) z)<0:=by
 constructor
 ·intro h k h0 hk hlt;have:=h (k-1) k (by omega) (by omega) hk;have:=hf.anti (q.getD k z) (q.getD (k-1) z);omega
 ·intro h i j _ hij hj;induction j with
  | zero=>omega
  | succ j ih=>
   have h1:=h (j+1) (by omega) hj;have h2:=hf.anti (q.getD (j+1) z) (q.getD j z);simp only [Nat.add_sub_cancel]at h1;by_cases e:i=j
   ·subst e;omega
   ·exact hf.trans _ _ _ (ih (by omega) (by omega)) (by omega)
theorem rd_at{w:World}{A:Option Addr}{n:Nat}{ps:List Pr}(hR:Rd w 1 A n (ps.map (·.1)))(hn:ps.length=n){i:Nat}(hi:i<n): w.cell? (adr A i)=some (ps.getD i z0).1:=hR.cell (ps_get (hn.symm ▸ hi))
theorem Jwc{ps:List Pr}{n:Nat}(hn:ps.length=n){i:Nat}(hi:i<n): ps.getD i z0∈ps:=getD_mem' z0 ps (hn.symm ▸ hi)
theorem CF.none{w:World}{fid:FuncId}{first cap:Array Value}{ps:List Pr}{ds:List Bool}{row:Option Nat}(h:CF w row fid first cap ps ds){w':World}(hx:Ext w w'){p q:Pr}(hp:p∈ps)(hq:q∈ps):
  Ret Tryz.prog fid (first.toList++[p.1,q.1]++cap.toList) w' λr w''=>r=.int .i64 (fP ds p q)/\Ext w' w'':=h w' (Jqm hx _) p q hp hq
theorem isSorted_any{w:World}{A:Option Addr}{n c:Nat}{fid:FuncId}{first cap:Array Value}{row:Option Nat}{ps:List Pr}{ds:List Bool}(hR:Rd w 1 A n (ps.map (·.1)))(hn:ps.length=n)(hmx:n<=1100000)(hC:CF w row fid first cap ps ds):
  Ret Tryz.prog 116 [.slice A n c,.func (.func fid) first cap] w λv w'=>Ext w w'/\∃ t:Bool,v=.bool t/\(t=true↔SOn z0 (fP ds) ps 0 n):=by
 refine Jjb Tryz.func116 Tryz.ntmps116 rfl (by kernel_rfl) rfl ?_;refine ρ ?_;refine Jqp (fun (j:Nat)=>[(0,.slice A n c),(1,.func (.func fid) first cap),(5,.int .i64 ((j:Int)-1))]) (λj w'=>Ext w w'/\j<=n/\∀ k,j<=k->0<k->k<n->¬ fP ds (ps.getD k z0) (ps.getD (k-1) z0)<0) (λj=>j) n sO ⟨Ext.refl w,Nat.le_refl _,λk h1 _ h2=>by omega⟩ ?_;rintro j w1 ⟨hx,hj,hI⟩;refine ρ ?_;refine ci (λh=>?_) (λh=>?_)
 ·have h2:2<=j:=by have:=of_decide_eq_true h;omega
  have lj:j-1<n:=by omega
  have lj2:j-2<n:=by omega
  refine ρ ?_;refine dr [(0,0),(0,1),(0,2),(0,3),(0,4),(0,5),(0,6),(0,7),(0,8),(0,9),(1,10),(0,11)] (by kernel_rfl) ?_;have hx2:Ext w w1.drew:=hx.drew;have hR2:=hR.ext hx2;refine ρd ?_;refine dix (j-1) hR2 lj ?_;refine ρd ?_;refine dld (rd_at hR2 hn lj) ?_;refine ρd ?_;refine dix (j-2) hR2 lj2 ?_;refine ρd ?_;refine dld (rd_at hR2 hn lj2) ?_;refine ρd ?_;refine dclv (hC.none hx2 (Jwc hn lj) (Jwc hn lj2)) ?_;rintro r w2 ⟨rfl,hx3⟩;refine ⟨hx3,?_⟩;refine ρd ?_;refine ρ ?_;refine ci (λh=>?_) (λh=>?_)
  ·refine ρ ?_;refine Jjq ⟨hx2.trans hx3,false,rfl,⟨λe=>(by cases e),λe=>?_⟩⟩;have:=(son_adj (preP ds)).1 e (j-1) (by omega) lj;exact absurd (of_decide_eq_true h) this
  ·refine ρ ?_;refine Jjs (j-1) sO ⟨hx2.trans hx3,by omega,λk k1 k2 k3=>?_⟩ (by omega);by_cases e:k=j-1
   ·subst e;exact of_decide_eq_false h
   ·exact hI k (by omega) k2 k3
 ·refine ρ ?_;have h1:j<=1:=by have:=of_decide_eq_false h;omega
  exact Jjq ⟨hx,true,rfl,⟨λ_=>(son_adj (preP ds)).2 λk k1 k2=>hI k (by omega) k1 k2,λ_=>rfl⟩⟩
theorem own_clear{P:Program}{w:World}{t e base n c k bytes:Nat}{z:Value}{A:Option Addr}{xs:List Value}(hE:ElT P t e 1 bytes z)(hz1:z.cells = #[z])(hz2:z.oneCell'=true)(h:w.ownsRow base e 1 (.slice A n c) n xs)(hk:k<=n)(ty:TypeId):
  ∃ w',(Builtin.clear_ #[t] ty #[.slice (if c=k then A else A.map (·.add (k*1))) (n-k) (c-k)]).run P w=.ok (.tuple #[]) w'/\w'.ownsRow base e 1 (.slice A k c) k (xs.take k)/\w.grownBy w' (Value.slice A n c).ownBlock:=by
 obtain ⟨i,hi,hz,hsz,hbt⟩:=hE.info;obtain ⟨hl,hh⟩:=h;have hl':xs.length=n:=by omega
 rcases Nat.eq_or_lt_of_le hk with e0|hlt
 ·subst e0;refine ⟨w,?_,?_,Jqm (Ext.refl w) _⟩
  ·rw [Nat.sub_self];generalize (if c=k then A else A.map (·.add (k*1)))=B
   cases B<;>simp [Builtin.clear_,run_underlying hE.sl]
  ·rw [List.take_of_length_le (by omega)];exact ⟨hl,hh⟩
 ·rcases hh with ⟨hv,h0⟩|⟨g,cap,cur,hv,hb,hg,hle,hmx,hcs,hcur⟩
  ·omega
  ·injection hv with e1 e2 e3
   subst e1;subst e3;have hck:¬ c=k:=by omega
   rw [if_neg hck];have e4:(some (⟨g,0,none⟩:Addr)).map (·.add (k*1))=some ⟨g,k,none⟩:=by simp [Jzn]
   rw [e4];have hst:=run_storeCells_at (P:=P) g k e (List.replicate (n-k) z) 0 cur w hg (by simp;omega) (λv hv=>by rw [List.eq_of_mem_replicate hv];exact hz2);refine ⟨w.setRow g (cur.toList.take (k+0)++List.replicate (n-k) z++cur.toList.drop (k+0+(List.replicate (n-k) z).length)).toArray,?_,?_,Jzd w g _⟩
   ·have hn0:∃ m,n-k=m+1:=⟨n-k-1,by omega⟩;obtain ⟨m,hm⟩:=hn0;have hzz:(Builtin.zeroCells z.cells (n-k)).toList=List.replicate (n-k) z:=by
     rw [hz1];simp only [Builtin.zeroCells];apply List.ext_getElem
     ·simp
     ·intro j h1 h2;simp [Nat.mod_one]
    rw [hm]at hst hzz ⊢;have hzr:(zeroValue e).run P w=.ok z w:=by simp [zeroValue,typeInfo,hi,hz]
    simp only [Nat.add_zero,List.length_replicate,List.append_assoc]at hst ⊢;simp [Builtin.clear_,run_underlying hE.sl,hzr,hzz,hst]
   ·simp only [Nat.add_zero,List.length_replicate];refine ⟨by rw [List.length_take];omega,.inr ⟨g,c,_,rfl,hb,setRow_heap w g cur _ e _ hg,by omega,hmx,?_,?_⟩⟩
    ·simp;omega
    ·simp only [Nat.mul_one]at hcur ⊢;rw [List.append_assoc,List.take_append_of_le_length (by simp;omega),<-hcur];conv=>rhs;rw [List.take_take]
     rw [List.take_take,Nat.min_self,Nat.min_eq_left (Nat.le_of_lt hlt)]
end Go.Proofs.YtefpailelagbkaaGreatDoor
namespace Go.Wk
section
variable {P:Program} {n:Nat} {al:AL} {w:World} {Q:Exit->Act->World->Prop} {ops:Array Oper} {rest:List Oper}
variable {ty:Nat} {pos:String} {aft:Array Edge}
theorem clr{x:Operand}{t:Nat}{v:Value}{w':World}(h:∀ ty,(Builtin.clear_ #[t] ty #[v]).run P w=.ok (.tuple #[]) w')(k:WL P n ops Q rest al w')(hx:ev al x=some v:=by rfl):
  WL P n ops Q (⟨none,.call { callee:=.builtin .clear,args:=#[x],argTypes:=#[t] },ty,pos,aft,none⟩::rest) al w:=λa ha=>
 wpList_plain rfl λK hK=>by
  unfold Oper.wp;have e:(execOp a.eval ⟨none,.call { callee:=.builtin .clear,args:=#[x],argTypes:=#[t] },ty,pos,aft,none⟩).run P w=.ok (.value (.tuple #[])) w':=by
   simp [execOp,resolve,invoke,builtin,ha.ev hx,h ty]
  rw [e,Oper.upon_value];exact hK _ _ (k _ ha)
end
end Go.Wk
namespace Go.Proofs.YtefpailelagbkaaGreatDoor
open Go.RowKit Pl Go.Wk
attribute [local irreducible] WC WL QX WD WDB WP
def EqF(w:World)(row:Option Nat)(fid:FuncId)(first cap:Array Value)(M:List Pr): Prop :=
 ∀ w',w.grownBy w' row->∀ p q,p∈M->q∈M->Ret Tryz.prog fid (first.toList++[p.1,q.1]++cap.toList) w' λr w''=>r=.bool (decide (p.2=q.2))/\Ext w' w''
theorem ddF_one{l:List Row}(h:l.length<2): ddF l=l:=by
 match l with
 | []=>rfl
 | [a]=>rfl
 | _::_::_=>exact absurd h (by simp)
theorem Jjm{α:Type}(z:α){l:List α}{k:Nat}(h:k<l.length): l.take (k+1)=l.take k++[l.getD k z]:=by
 rw [List.take_add_one,List.getElem?_eq_getElem h,Jjh z l h];rfl
theorem Dat.take{w:World}{base:Nat}{A:Option Addr}{n c k:Nat}{q:List Pr}(hq:q.length=n)(h1:∀ p∈q,p.1.oneCell'=true)(hk:k<=n)(h:w.ownsRow base 40 1 (.slice A k c) k ((q.map (·.1)).take k)): Dat w base (.slice A k c) (q.take k):=by
 refine ⟨?_,λp hp=>h1 p (List.mem_of_mem_take hp)⟩;rw [List.length_take,hq,Nat.min_eq_left hk,List.map_take];exact h
theorem compact_any{w:World}{base:Nat}{A:Option Addr}{n c:Nat}{fid:FuncId}{first cap:Array Value}{ps:List Pr}(hD:Dat w base (.slice A n c) ps)(hn:ps.length=n)(hmx:n<=1100000)(hnc:n<=c)(hC:EqF w (Value.slice A n c).ownBlock fid first cap ps):
  Ret Tryz.prog 119 [.slice A n c,.func (.func fid) first cap] w λv w'=>∃ ps':List Pr,v=.slice A ps'.length c/\Dat w' base (.slice A ps'.length c) ps'/\ps'.map (·.2)=ddF (ps.map (·.2))/\(∀ p∈ps',p∈ps)/\w.grownBy w' (Value.slice A n c).ownBlock:=by
 refine Jjb Tryz.func119 Tryz.ntmps119 rfl (by kernel_rfl) rfl ?_;obtain ⟨ls,hls⟩:∃ ls:List Row,ls=ps.map (·.2):=⟨_,rfl⟩
 have hln:ls.length=n:=by rw [hls];simpa using hn
 have hget:∀ i,ls.getD i []=(ps.getD i z0).2:=λi=>by rw [hls];exact ls_get
 refine ρ ?_;refine ci (λh=>?_) (λh=>?_)
 ·refine ρ ?_;refine Jjq ⟨ps,by rw [hn],by rw [hn];exact hD,?_,λp hp=>hp,Jqm (Ext.refl w) _⟩;rw [<-hls,ddF_one];have:=of_decide_eq_true h;omega
 have h2:2<=n:=by have:=of_decide_eq_false h;omega
 clear h;refine ρ ?_;refine Jqp (fun (j:Nat)=>[(0,.slice A n c),(1,.func (.func fid) first cap),(5,.int .i64 (j:Int))]) (λj w'=>Ext w w'/\1<=j/\j<=n/\ddF (ls.take j)=ls.take j) (λj=>n-j) 1 sB ⟨Ext.refl w,by omega,by omega,ddF_one (by rw [List.length_take];omega)⟩ ?_;rintro j w1 ⟨hx,hj1,hj,hI⟩;refine ρ ?_;refine ci (λh=>?_) (λh=>?_);rotate_left
 ·have e:j=n:=by have:=of_decide_eq_false h;omega
  refine ρ ?_;refine Jjq ⟨ps,by rw [hn],by rw [hn];exact hD.ext hx,?_,λp hp=>hp,Jqm hx _⟩;rw [<-hls];rw [e,List.take_of_length_le (by omega)]at hI;exact hI.symm
 have lj:j<n:=by have:=of_decide_eq_true h;omega
 have lj1:j-1<n:=by omega
 clear h;refine ρ ?_;refine dr [(0,0),(0,1),(0,2),(0,3),(0,4),(0,5),(0,6),(0,7),(0,8),(0,9),(1,10)] (by kernel_rfl) ?_;have hx2:Ext w w1.drew:=hx.drew;have hD2:=hD.ext hx2;refine ρd ?_;refine dix j (hD2.rd hn) lj ?_;refine ρd ?_;refine dld (hD2.cell hn lj) ?_;refine ρd ?_;refine dix (j-1) (hD2.rd hn) lj1 ?_;refine ρd ?_;refine dld (hD2.cell hn lj1) ?_;refine ρd ?_;refine dclv (hC _ (Jqm hx2 _) (ps.getD j z0) (ps.getD (j-1) z0) (Jwc hn lj) (Jwc hn lj1)) ?_;rintro r w2 ⟨rfl,hx3⟩;refine ⟨hx3,?_⟩;have hx4:=hx2.trans hx3;refine ρd ?_;refine ρ ?_;have hst:=ddF_take (l:=ls) (k:=j) (by omega);rw [hget,hget]at hst;refine ci (λh=>?_) (λh=>?_);rotate_left
 ·have hne:=of_decide_eq_false h;refine ρ ?_;refine Jjs (j+1) sO ⟨hx4,by omega,by omega,?_⟩ (by omega);rw [hst,if_neg (λe=>hne e.2.symm),hI,Jjm [] (by omega),hget]
 have heq:=of_decide_eq_true h;clear h;rw [if_pos ⟨by omega,heq.symm⟩,hI]at hst;have hD4:=hD.ext hx4;refine ρ ?_;refine sll j ?_;refine ρ ?_;refine Jzk (fun (k m:Nat) (q:List Pr)=>[(0,.slice A n c),(1,.func (.func fid) first cap),(5,.int .i64 (k:Int)),(6,.slice (if c=j then A else A.map (·.add (j*1))) (n-j) (c-j)),(7,.int .i64 ((m:Int)-(j:Int)))])
  (λk m q w'=>Dat w' base (.slice A n c) q/\q.length=n/\w.grownBy w' (Value.slice A n c).ownBlock/\j<m/\m<=n/\k<m/\(∀ i,k<=i->q.getD i z0=ps.getD i z0)/\(q.take k).map (·.2)=ddF (ls.take m)/\∀ p∈q,p∈ps) (λ_ m _=>n-m) j (j+1) ps sO
  ⟨hD4,hn,Jqm hx4 _,by omega,by omega,by omega,λ_ _=>rfl,by rw [List.map_take,<-hls];exact hst.symm,λp hp=>hp⟩ ?_
 rintro k m q w3 ⟨hD5,hq,hg5,hjm,hm,hk,hhi,hlo,hsub⟩;refine ρ ?_;refine ci (λh=>?_) (λh=>?_)
 ·have hm2:m<n:=by have:=of_decide_eq_true h;omega
  have lm:m-j<n-j:=by omega
  have lm1:m-j-1<n-j:=by omega
  clear h;refine ρ ?_;refine dr [(0,0),(0,1),(0,2),(0,3),(0,4),(0,5),(0,6),(0,7),(0,8),(0,9),(1,10),(0,11)] (by kernel_rfl) ?_;have hxd:Ext w3 w3.drew:=(Ext.refl w3).drew;have hD6:=hD5.ext hxd;have hg6:=Jjw hg5 (Jqm hxd _);have hR6:=(hD6.rd hq).drop (k:=j) (c:=c) (by omega) hnc;have c1:((q.map (·.1)).drop (j*1))[m-j]?=some (ps.getD m z0).1:=by
   rw [List.getElem?_drop,show j*1+(m-j)=m by omega,ps_get (by omega),hhi m (by omega)]
  have c2:((q.map (·.1)).drop (j*1))[m-j-1]?=some (ps.getD (m-1) z0).1:=by
   rw [List.getElem?_drop,show j*1+(m-j-1)=m-1 by omega,ps_get (by omega),hhi (m-1) (by omega)]
  refine ρd ?_;refine dix (m-j) hR6 lm ?_;refine ρd ?_;refine dld (hR6.cell c1) ?_;refine ρd ?_;refine dix (m-j-1) hR6 lm1 ?_;refine ρd ?_;refine dld (hR6.cell c2) ?_;refine ρd ?_;refine dclv (hC _ hg6 (ps.getD m z0) (ps.getD (m-1) z0) (Jwc hn hm2) (Jwc hn (by omega))) ?_;rintro r w7 ⟨rfl,hx7⟩;refine ⟨hx7,?_⟩;have hD7:=hD6.ext hx7;have hg7:=Jjw hg6 (Jqm hx7 _);have hR7:=hR6.ext hx7;refine ρd ?_;refine ρ ?_;have hst:=ddF_take (l:=ls) (k:=m) (by omega);rw [hget,hget]at hst;refine ci (λh=>?_) (λh=>?_)
  ·have hne:(ps.getD m z0).2≠(ps.getD (m-1) z0).2:=by simpa using h
   have lk:k<n:=by omega
   have hlo2:(q.take k).length=k:=by rw [List.length_take];omega
   refine ρ ?_;refine ix (m-j) hR7 lm ?_;refine ρ ?_;refine ld (hR7.cell c1) ?_;refine ρ ?_;refine ix k (hD7.rd hq) lk ?_;refine ρ ?_;obtain ⟨s1,s2,s3⟩:=hD7.store hq lk (p:=ps.getD m z0) (hD.one (by omega));refine sto (hD7.cell hq lk) s1 ?_ (hv:=hD.one (by omega));refine ρ ?_;refine Jqf (k+1) (m+1) (q.set k (ps.getD m z0)) sO ⟨s2,by simpa using hq,Jjw hg7 s3,by omega,by omega,by omega,λi hi=>?_,?_,λp hp=>?_⟩ (by omega)
   ·rw [Qjt z0 _ _ _ _ (by omega),if_neg (by omega)];exact hhi i (by omega)
   ·rw [hst,if_neg (λe=>hne e.2.symm),<-hlo,Jjm z0 (by simp;omega),Qjt z0 _ _ _ _ (by omega),if_pos rfl,List.take_set_of_le (Nat.le_refl _),List.map_append];rfl
   ·rcases List.mem_or_eq_of_mem_set hp with h'|h'
    ·exact hsub p h'
    ·rw [h'];exact Jwc hn hm2
  ·have heq:(ps.getD m z0).2=(ps.getD (m-1) z0).2:=by simpa using h
   refine ρ ?_;refine Jqf k (m+1) q sO ⟨hD7,hq,hg7,by omega,by omega,by omega,hhi,?_,hsub⟩ (by omega);rw [hst,if_pos ⟨by omega,heq.symm⟩,hlo]
 ·have e:m=n:=by have:=of_decide_eq_false h;omega
  subst e;have hD5':=hD5.1;rw [hq]at hD5';obtain ⟨w8,hr8,ho8,hg8⟩:=own_clear (P:=Tryz.prog) (k:=k) ER rfl rfl hD5' (by omega) 0;refine ρ ?_;refine sll k ?_;refine ρ ?_;refine clr (w':=w8) (λty=>hr8) ?_;refine ρ ?_;refine slh k ?_;refine ρ ?_;have hlen:(q.take k).length=k:=by rw [List.length_take];omega
  refine Jjq ⟨q.take k,by rw [hlen],by rw [hlen];exact Dat.take hq hD5.2 (by omega) ho8,?_,λp hp=>hsub p (List.mem_of_mem_take hp),Jjw hg5 hg8⟩;rw [hlo,List.take_of_length_le (by omega),hls]
end Go.Proofs.YtefpailelagbkaaGreatDoor
