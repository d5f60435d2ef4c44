/- Part 10 of the proof: Off, Of, Cpt. -/
import Derived.Test.YtefpailelagbkaaGreatDoorJ09
import Derived.Laws.CopyRow
set_option linter.unusedVariables false
set_option maxRecDepth 100000
set_option maxHeartbeats 40000000
namespace Go.Wk
open Go.RowKit
structure GrN(N:Nat->Prop)(w w':World): Prop where
 os:w'.os=w.os
 tape:w'.tape=w.tape
 output:w'.output=w.output
 size:w.heap.size<=w'.heap.size
 block:∀ k,k<w.heap.size->¬ N k->w'.heap[k]?=w.heap[k]?
theorem GrN.refl(N:Nat->Prop)(w:World): GrN N w w:=⟨rfl,rfl,rfl,Nat.le_refl _,λ_ _ _=>rfl⟩
theorem GrN.ext{N:Nat->Prop}{w w':World}(h:Ext w w'): GrN N w w':=⟨h.os,h.tape,h.output,h.size,λk hk _=>h.block k hk⟩
theorem GrN.trans{N:Nat->Prop}{a b c:World}(h:GrN N a b)(k:GrN N b c): GrN N a c :=
 ⟨k.os.trans h.os,k.tape.trans h.tape,k.output.trans h.output,Nat.le_trans h.size k.size,λj hj hn=>(k.block j (Nat.lt_of_lt_of_le hj h.size) hn).trans (h.block j hj hn)⟩
theorem GrN.by{N:Nat->Prop}{w w':World}{g:Option Nat}(h:w.grownBy w' g)(hg:∀ k,g=some k->N k): GrN N w w':=⟨h.os,h.tape,h.output,h.size,λk hk hn=>h.block k hk (λe=>hn (hg k e.symm))⟩
theorem GrN.set{N:Nat->Prop}{w:World}{p:Addr}(u:Value)(hp:N p.block): GrN N w (w.setCell p u):=by
 refine ⟨rfl,rfl,rfl,by simp [World.setCell],λk hk hn=>Below.heap_setCell w p u k ?_⟩;intro e;subst e;exact hn hp
theorem GrN.mono{N N':Nat->Prop}{w w':World}(h:GrN N w w')(hN:∀ k,k<w.heap.size->N k->N' k): GrN N' w w':=⟨h.os,h.tape,h.output,h.size,λk hk hn=>h.block k hk (λe=>hn (hN k hk e))⟩
theorem GrN.old{N:Nat->Prop}{a w w':World}(h:GrN N w w')(hx:Ext a w)(hN:∀ k,N k->a.heap.size<=k): Ext a w' :=
 ⟨h.os.trans hx.os,h.tape.trans hx.tape,h.output.trans hx.output,Nat.le_trans hx.size h.size,λk hk=>(h.block k (Nat.lt_of_lt_of_le hk hx.size) (λe=>by have:=hN k e;omega)).trans (hx.block k hk)⟩
theorem GrN.toExt{w w':World}(h:GrN (λ_=>False) w w'): Ext w w':=⟨h.os,h.tape,h.output,h.size,λk hk=>h.block k hk (λe=>e)⟩
def Off(N:Nat->Prop)(w:World)(Φ:World->Prop): Prop:=∀ w',GrN N w w'->Φ w'
section
variable {N N':Nat->Prop} {w w':World} {Φ Ψ:World->Prop}
theorem Off.here(h:Off N w Φ): Φ w:=h w (GrN.refl N w)
theorem Off.gr(h:Off N w Φ)(hg:GrN N w w'): Off N w' Φ:=λw'' hg'=>h w'' (hg.trans hg')
theorem Off.ext(h:Off N w Φ)(hx:Ext w w'): Off N w' Φ:=h.gr (GrN.ext hx)
theorem Off.mono(h:Off N w Φ)(hN:∀ k,k<w.heap.size->N' k->N k): Off N' w Φ:=λw' hg=>h w' (hg.mono hN)
theorem Off.imp(h:Off N w Φ)(hi:∀ u,Φ u->Ψ u): Off N w Ψ:=λw' hg=>hi w' (h w' hg)
theorem Off.and(h:Off N w Φ)(k:Off N w Ψ): Off N w (λu=>Φ u/\Ψ u):=λw' hg=>⟨h w' hg,k w' hg⟩
theorem Off.grown{g:Option Nat}(h:Off N w Φ)(hg:w.grownBy w' g)(hN:∀ k,g=some k->N k): Off N w' Φ:=h.gr (GrN.by hg hN)
theorem Off.old{a:World}(hΦ:∀ u,Ext a u->Φ u)(hx:Ext a w)(hN:∀ k,N k->a.heap.size<=k): Off N w Φ:=λw' hg=>hΦ w' (hg.old hx hN)
theorem Qzl{sz n:Nat}{A:Option Addr}{cs:List Value}(h:Rd w sz A n cs)(hg:GrN N w w')(hA:0<cs.length->∀ ad,A=some ad->¬ N ad.block): Rd w' sz A n cs :=
 ⟨h.1,λh0=>by
  obtain ⟨ad,e,hb,hc⟩:=h.2 h0;refine ⟨ad,e,Nat.lt_of_lt_of_le hb hg.size,λj u hu=>?_⟩;rw [<-hc j u hu];exact World.cell?_of_block (by rw [Jzc];exact hg.block _ hb (hA h0 ad e))⟩
theorem Xyj{sz n:Nat}{A:Option Addr}{cs:List Value}(h:Rd w sz A n cs)(hA:0<cs.length->∀ ad,A=some ad->¬ N ad.block): Off N w (λu=>Rd u sz A n cs):=λw' hg=>Qzl h hg hA
theorem Jqb{g:Nat}{t:TypeId}{cs:List Value}(h:Blk w g t cs)(hg:GrN N w w')(hn:¬ N g): Blk w' g t cs:=(hg.block g h.lt hn).trans h
theorem Jjr{base e sz:Nat}{v:Value}{m:Nat}{xs:List Value}(h:w.ownsRow base e sz v m xs)(hg:GrN N w w')(hn:∀ g,v.ownBlock=some g->¬ N g): w'.ownsRow base e sz v m xs:=by
 rcases h with ⟨hl,⟨rfl,rfl⟩|⟨g,cap,cur,rfl,hb,hh,hle,hm,hc,ht⟩⟩
 ·exact ⟨hl,.inl ⟨rfl,rfl⟩⟩
 ·refine ⟨hl,.inr ⟨g,cap,cur,rfl,hb,?_,hle,hm,hc,ht⟩⟩;have hlt:g<w.heap.size:=by
   rcases Nat.lt_or_ge g w.heap.size with h'|h'
   ·exact h'
   ·rw [Array.getElem?_eq_none h']at hh;cases hh
  rw [hg.block g hlt (hn g rfl)];exact hh
theorem Jfv{base e sz:Nat}{v:Value}{m:Nat}{xs:List Value}(h:w.ownsRow base e sz v m xs)(hn:∀ g,v.ownBlock=some g->¬ N g): Off N w (λu=>u.ownsRow base e sz v m xs):=λw' hg=>Jjr h hg hn
end
theorem Jyf{P:Program}{n:Nat}{al:AL}{w:World}{tt:TT}[h:Tab P tt]{fn:Func}{Φ:Value->World->Prop}{c t t1 b:Nat}{k:TK}{cs:List Value}{x:Value}(hb:Blk w b t cs)(hp:Φ (.tuple #[.agg cs.toArray,x]) w)(hr:fn.results = #[.cell c t,.tmp t1]:=by rfl)(ht:tk tt t=some k:=by rfl)(hk:k.desc=.invalid:=by rfl)(hs:k.size=cs.length:=by rfl)(hc:lk al c=some (.pointer (some ⟨b,0,none⟩)):=by rfl)(h1:lk al t1=some x:=by rfl):
  QX n (Qvd P fn Φ) .ret al w :=
 Qdz (rs:=[.cell c t,.tmp t1]) (vs:=[.agg cs.toArray,x]) hr ⟨⟨_,hc,Jwn h.ok ht hk hs (λj u hu=>hb.at hu)⟩,h1,trivial⟩ rfl hp
end Go.Wk
namespace Go.Proofs.YtefpailelagbkaaGreatDoor
open Go.RowKit Pl Go.Wk
attribute [local irreducible] WC WL QX WD WDB WP
def RowX(w:World)(N:Nat->Prop)(v:Value)(r:List V): Prop:=∃ A c,v=.slice A r.length c/\r.length<=c/\r.length<=1100000/\RdR w A r/\(r≠[]->∀ ad,A=some ad->¬ N ad.block)
def one(g:Option Nat)(k:Nat): Prop:=g=some k
theorem RowX.v{w:World}{N:Nat->Prop}{v:Value}{r:List V}(h:RowX w N v r): RowV w v r:=by
 obtain ⟨A,c,h1,h2,h3,h4,_⟩:=h;exact ⟨A,c,h1,h2,h3,h4⟩
theorem RowX.ext{w w':World}{N:Nat->Prop}{v:Value}{r:List V}(h:RowX w N v r)(hx:Ext w w'): RowX w' N v r:=by
 obtain ⟨A,c,h1,h2,h3,h4,h5⟩:=h;exact ⟨A,c,h1,h2,h3,h4.ext hx,h5⟩
theorem RowX.mono{w:World}{N N':Nat->Prop}{v:Value}{r:List V}(h:RowX w N v r)(hN:∀ k,k<w.heap.size->N' k->N k): RowX w N' v r:=by
 obtain ⟨A,c,h1,h2,h3,h4,h5⟩:=h;refine ⟨A,c,h1,h2,h3,h4,λh0 ad e hn=>h5 h0 ad e (hN _ ?_ hn)⟩;obtain ⟨ad',e7,e8⟩:=Rd.isome h4 (List.length_pos_iff.2 h0) (by omega);rw [e]at e7;injection e7 with e7;subst e7;exact e8
theorem RowX.grown{w w':World}{N:Nat->Prop}{g:Option Nat}{v:Value}{r:List V}(h:RowX w N v r)(hg:w.grownBy w' g)(hN:∀ k,g=some k->N k): RowX w' N v r:=by
 obtain ⟨A,c,h1,h2,h3,h4,h5⟩:=h;refine ⟨A,c,h1,h2,h3,?_,h5⟩;by_cases h0:r=[]
 ·subst h0;exact Rd.nil
 ·exact Rd.grown h4 hg (λad e e2=>h5 h0 ad e (hN _ e2))
theorem RowX.nil(w:World)(N:Nat->Prop): RowX w N (.slice none 0 0) []:=⟨none,0,rfl,by simp,by simp,Rd.nil,λh=>absurd rfl h⟩
def RowsV(w:World)(v:Value)(ls:List (List V)): Prop:=∃ (ps:List Pr) (A:Option Addr) (c:Nat),ls=ps.map (·.2)/\v=.slice A ps.length c/\ps.length<=c/\ps.length<=1100000/\Rd w 1 A ps.length (ps.map (·.1))/\∀ p∈ps,RowV w p.1 p.2
theorem RowsV.ext{w w':World}{v:Value}{ls:List (List V)}(h:RowsV w v ls)(hx:Ext w w'): RowsV w' v ls:=by
 obtain ⟨ps,A,c,h1,h2,h3,h4,h5,h6⟩:=h;exact ⟨ps,A,c,h1,h2,h3,h4,h5.ext hx,λp hp=>(h6 p hp).ext hx⟩
theorem RowV.one{w:World}{v:Value}{r:List V}(h:RowV w v r): v.oneCell'=true:=by obtain ⟨A,c,rfl,_⟩:=h;rfl
theorem Jbb{v:Value}{r:List V}{w:World}(h:RowV w v r)(N:Nat->Prop)(hg:∀ k,N k->k<w.heap.size):
  Ret Tryz.prog 68 [v] w λv' w'=>RowX w' N v' r/\Ext w w':=by
 obtain ⟨A,c,rfl,h2,h3,hr⟩:=h;refine Jjb Tryz.func68 Tryz.ntmps68 rfl (by kernel_rfl) rfl ?_;refine ρ ?_;refine Xjf ?_;refine ρ ?_;refine ci (λh=>?_) (λh=>?_)
 ·have hA:A=none:=by simpa using h
  subst hA;have hn:r.length=0:=by
   rcases Nat.eq_zero_or_pos r.length with h0|h0
   ·exact h0
   ·obtain ⟨ad,h2,_⟩:=hr.isome h0 (by omega);cases h2
  obtain rfl:=List.eq_nil_of_length_eq_zero hn;refine ρ ?_;exact Jjq ⟨RowX.nil w N,Ext.refl w⟩
 ·refine ρ ?_;refine bsl Jhf ?_;intro w1 b hx1 hb1 hk1;refine ρ ?_;refine apo hx1 EV (hk1.own (n:=0) hb1 rfl (Nat.zero_le _)) (hr.ext hx1) (Jdn r) (by unfold maxLen;omega) (by omega) ?_;intro v2 w2 ho2 hx2 _ _;obtain ⟨A2,c2,rfl,hc2,hf⟩:=Jjd ho2;refine ρ ?_;rw [Nat.zero_add]at ho2 hc2 ⊢;refine Jjq ⟨⟨A2,c2,rfl,hc2,h3,Rd.own ho2,λ_ ad e=>?_⟩,hx2⟩;subst e;intro e2;have h4:=hg _ e2;have h5:=(hf ad.block rfl).1;omega
theorem Pr.rep(n:Nat): (List.replicate n ((.slice none 0 0,[]):Pr)).map (·.1)=List.replicate n (.slice none 0 0):=by simp
def Srt(ds:List Bool)(ls:List (List V)): Prop:=ls.Pairwise λa b=>Jxg a b ds<=0
theorem Xjc{ds:List Bool}{ps:List Pr}(h:SOn z0 (fP ds) ps 0 ps.length): Srt ds (ps.map (·.2)):=by
 unfold Srt;rw [List.pairwise_map,List.pairwise_iff_getElem];intro i j hi hj hij;have:=h i j (Nat.zero_le _) hij hj;rw [Jjh z0 ps hi,Jjh z0 ps hj]at this;exact this
end Go.Proofs.YtefpailelagbkaaGreatDoor
namespace Go.Proofs.YtefpailelagbkaaGreatDoor
open Pl
abbrev Row:= List V
def Lt(ds:List Bool)(ls:List Row): Prop:=ls.Pairwise λa b=>Jxg a b ds<0
def Jvh(ds:List Bool)(ls m:List Row): Prop:=Lt ds m/\∀ x,x∈m↔x∈ls
theorem Qys(ds:List Bool)(a:Row): ¬ Jxg a a ds<0:=by rw [Jxq];omega
theorem Xzr{ds:List Bool}{a b:Row}(h:Jxg a b ds<0): ¬ Jxg b a ds<0:=by rw [Jnq a b];omega
theorem Jbg{ds:List Bool}: ∀ {l m:List Row},Lt ds l->Lt ds m->(∀ x,x∈l↔x∈m)->l=m
 | [],[],_,_,_=>rfl
 | [],b::m,_,_,h=>absurd ((h b).2 (List.mem_cons_self ..)) (by simp)
 | a::l,[],_,_,h=>absurd ((h a).1 (List.mem_cons_self ..)) (by simp)
 | a::l,b::m,h1,h2,h=>by
  have p1:=List.pairwise_cons.1 h1;have p2:=List.pairwise_cons.1 h2;have hab:a=b:=by
   rcases List.mem_cons.1 ((h a).1 (List.mem_cons_self ..)) with e|e
   ·exact e
   ·rcases List.mem_cons.1 ((h b).2 (List.mem_cons_self ..)) with e2|e2
    ·exact e2.symm
    ·exact absurd (p1.1 _ e2) (Xzr (p2.1 _ e))
  subst hab;congr 1
  refine Jbg p1.2 p2.2 λx=>?_;have hx:=h x;constructor
  ·intro hm;rcases List.mem_cons.1 (hx.1 (List.mem_cons_of_mem _ hm)) with e|e
   ·subst e;exact absurd (p1.1 _ hm) (Qys ds x)
   ·exact e
  ·intro hm;rcases List.mem_cons.1 (hx.2 (List.mem_cons_of_mem _ hm)) with e|e
   ·subst e;exact absurd (p2.1 _ hm) (Qys ds x)
   ·exact e
def ddS(out:List Row)(x:Row): List Row:=if out.getLast?=some x then out else out++[x]
def ddF(l:List Row): List Row:=l.foldl ddS []
theorem Jtn(l:List Row)(x:Row): ddF (l++[x])=ddS (ddF l) x:=by simp [ddF,List.foldl_append]
theorem Qbf(out:List Row)(x:Row): (ddS out x).getLast?=some x:=by
 unfold ddS;split
 ·assumption
 ·simp
theorem getLast_mem'{l:List Row}{x:Row}(h:l.getLast?=some x): x∈l:=by
 rw [List.getLast?_eq_some_iff]at h;obtain ⟨ys,rfl⟩:=h;simp
theorem Qwh{ds:List Bool}: ∀ (l out:List Row),Lt ds out->(∀ a∈out,∀ b∈l,Jxg a b ds<=0)->Srt ds l->Lt ds (l.foldl ddS out)/\∀ x,x∈l.foldl ddS out↔(x∈out∨x∈l)
 | [],out,h,_,_=>⟨h,λx=>by simp⟩
 | y::l,out,h,hle,hs=>by
  have p:=List.pairwise_cons.1 hs;simp only [List.foldl_cons];by_cases e:out.getLast?=some y
  ·have hy:=getLast_mem' e;have e1:ddS out y=out:=by unfold ddS;rw [if_pos e]
   rw [e1];obtain ⟨k1,k2⟩:=Qwh l out h (λa ha b hb=>hle a ha b (List.mem_cons_of_mem _ hb)) p.2;refine ⟨k1,λx=>(k2 x).trans ?_⟩;constructor
   ·rintro (h'|h')
    ·exact .inl h'
    ·exact .inr (List.mem_cons_of_mem _ h')
   ·rintro (h'|h')
    ·exact .inl h'
    ·rcases List.mem_cons.1 h' with rfl|h'
     ·exact .inl hy
     ·exact .inr h'
  ·have e1:ddS out y=out++[y]:=by unfold ddS;rw [if_neg e]
   rw [e1];have hlt:∀ a∈out,Jxg a y ds<0:=by
    intro a ha;have h1:=hle a ha y (List.mem_cons_self ..);rcases Int.lt_or_eq_of_le h1 with h2|h2
    ·exact h2
    ·exfalso
     have:=Jvt _ _ _ h2;subst this
     -- a is in out,and everything in out is below a;so a is the last
     obtain ⟨z,hz⟩:∃ z,out.getLast?=some z:=by
      cases hq:out.getLast? with
      | none=>rw [List.getLast?_eq_none_iff]at hq;rw [hq]at ha;cases ha
      | some z=>exact ⟨z,rfl⟩
     rw [List.getLast?_eq_some_iff]at hz;obtain ⟨ys,rfl⟩:=hz;rcases List.mem_append.1 ha with h3|h3
     ·have h4:=(List.pairwise_append.1 h).2.2 _ h3 z (by simp);have h5:=hle z (by simp) a (List.mem_cons_self ..);exact absurd ((Jtr ds).lt_le h4 h5) (Qys ds a)
     ·rw [List.mem_singleton.1 h3]at e;simp at e
   obtain ⟨k1,k2⟩:=Qwh l (out++[y]) (List.pairwise_append.2 ⟨h,List.pairwise_singleton _ _,λa ha b hb=>by rw [List.mem_singleton.1 hb];exact hlt a ha⟩) (λa ha b hb=>by
    rcases List.mem_append.1 ha with h'|h'
    ·exact hle a h' b (List.mem_cons_of_mem _ hb)
    ·rw [List.mem_singleton.1 h'];exact p.1 b hb) p.2
   refine ⟨k1,λx=>(k2 x).trans ?_⟩;rw [List.mem_append,List.mem_singleton,List.mem_cons,or_assoc]
theorem Xjw: ∀ (l out:List Row),(l.foldl ddS out).length<=out.length+l.length
 | [],out=>by simp
 | y::l,out=>by
  simp only [List.foldl_cons];have:=Xjw l (ddS out y);have h2:(ddS out y).length<=out.length+1:=by unfold ddS;split<;>simp
  simp only [List.length_cons];omega
theorem Jnj(l:List Row): (ddF l).length<=l.length:=by have:=Xjw l [];simpa [ddF] using this
theorem Qmv{ds:List Bool}{l:List Row}(h:Srt ds l): Jvh ds l (ddF l):=by
 obtain ⟨h1,h2⟩:=Qwh l [] List.Pairwise.nil (λa ha=>by cases ha) h;exact ⟨h1,λx=>(h2 x).trans (by simp)⟩
theorem Qbg{l:List Row}{k:Nat}(hk:k<l.length): ddF (l.take (k+1))=if k≠0/\l.getD (k-1) []=l.getD k [] then ddF (l.take k) else ddF (l.take k)++[l.getD k []]:=by
 rw [List.take_succ_eq_append_getElem hk,Jtn,<-Jjh [] l hk];unfold ddS;by_cases h0:k=0
 ·subst h0;rw [if_neg (by simp [ddF]),if_neg (by simp)]
 ·have hk1:k-1<l.length:=by omega
  have e:ddF (l.take k)=ddS (ddF (l.take (k-1))) (l.getD (k-1) []):=by
   have:=List.take_succ_eq_append_getElem hk1;rw [show k-1+1=k by omega]at this;rw [this,Jtn,Jjh [] l hk1]
  rw [e,Qbf];by_cases h1:l.getD (k-1) []=l.getD k []
  ·rw [if_pos (by rw [h1]),if_pos ⟨h0,h1⟩]
  ·rw [if_neg (by simpa using h1),if_neg (λh=>h1 h.2)]
def cnt(ds:List Bool)(l:List Row)(r:Row): Nat:=(l.filter λx=>decide (Jxg x r ds<0)).length
theorem Qmx(ds:List Bool)(l:List Row)(r:Row): cnt ds l r<=l.length:=List.length_filter_le _ _
theorem Lt.at{ds:List Bool}{l:List Row}(h:Lt ds l){i j:Nat}(hij:i<j)(hj:j<l.length): Jxg (l.getD i []) (l.getD j []) ds<0:=by
 have:=List.pairwise_iff_getElem.1 h i j (by omega) hj hij;rw [Jjh [] l hj,Jjh [] l (by omega)];exact this
theorem Qbj{ds:List Bool}{l:List Row}{r:Row}{k:Nat}(hk:k<=l.length)(hlo:∀ i,i<k->Jxg (l.getD i []) r ds<0)(hhi:∀ i,k<=i->i<l.length->¬ Jxg (l.getD i []) r ds<0): cnt ds l r=k:=by
 unfold cnt;have e:l=l.take k++l.drop k:=(List.take_append_drop k l).symm;rw [e,List.filter_append,List.length_append];have h1:(l.take k).filter (λx=>decide (Jxg x r ds<0))=l.take k:=by
  rw [List.filter_eq_self];intro x hx;obtain ⟨i,hi,rfl⟩:=List.getElem_of_mem hx;have hik:i<k:=by simp at hi;omega
  have:=hlo i hik;rw [Jjh [] l (by omega)]at this;simpa using this
 have h2:(l.drop k).filter (λx=>decide (Jxg x r ds<0))=[]:=by
  rw [List.filter_eq_nil_iff];intro x hx;obtain ⟨i,hi,rfl⟩:=List.getElem_of_mem hx;have hik:k+i<l.length:=by simp at hi;omega
  have:=hhi (k+i) (by omega) hik;rw [Jjh [] l hik]at this;simpa using this
 rw [h1,h2];simp;omega
theorem Xxs{ds:List Bool}{l:List Row}(h:Lt ds l){r:Row}{k:Nat}(hk:k<=l.length)(hlo:k=0∨Jxg (l.getD (k-1) []) r ds<0)(hhi:k=l.length∨¬ Jxg (l.getD k []) r ds<0):
  cnt ds l r=k/\(r∈l↔k<l.length/\l.getD k []=r):=by
 have lo:∀ i,i<k->Jxg (l.getD i []) r ds<0:=λi hi=>by
  rcases hlo with h0|h0
  ·omega
  ·by_cases e:i=k-1
   ·rw [e];exact h0
   ·exact (Jtr ds).lt_trans (h.at (i:=i) (j:=k-1) (by omega) (by omega)) h0
 have hi:∀ i,k<=i->i<l.length->¬ Jxg (l.getD i []) r ds<0:=λi h1 h2=>by
  rcases hhi with h0|h0
  ·omega
  ·by_cases e:i=k
   ·rw [e];exact h0
   ·exact λh3=>h0 ((Jtr ds).lt_trans (h.at (i:=k) (j:=i) (by omega) h2) h3)
 refine ⟨Qbj hk lo hi,λhm=>?_,λ⟨h1,h2⟩=>?_⟩
 ·obtain ⟨j,hj,he⟩:=List.getElem_of_mem hm;rw [<-Jjh [] l hj]at he;have hjk:k<=j:=by
   rcases Nat.lt_or_ge j k with h1|h1
   ·exact absurd (he ▸ lo j h1) (Qys ds r)
   ·exact h1
  have:j=k:=by
   rcases Nat.lt_or_ge k j with h1|h1
   ·exact absurd (he ▸ h.at h1 hj) (hi k (Nat.le_refl _) (by omega))
   ·omega
  subst this;exact ⟨hj,he⟩
 ·rw [<-h2];exact getD_mem' [] l h1
def Jpv(ds:List Bool)(l:List Row)(r:Row): List Row:=if r∈l then l else l.take (cnt ds l r)++r::l.drop (cnt ds l r)
theorem Xxt{ds:List Bool}{l ls:List Row}{r:Row}(h:Jvh ds ls l): Jvh ds (ls++[r]) (Jpv ds l r):=by
 unfold Jpv;split
 ·rename_i hm;refine ⟨h.1,λx=>?_⟩;rw [List.mem_append,List.mem_singleton,<-h.2 x];exact ⟨.inl,λh'=>h'.elim id λe=>e ▸ hm⟩
 ·rename_i hm;have hkle:=Qmx ds l r
  -- what is below the place is smaller,what is above is greater
  have hall:∃ k,cnt ds l r=k/\k<=l.length/\(∀ i,i<k->Jxg (l.getD i []) r ds<0)/\(∀ i,k<=i->i<l.length->¬ Jxg (l.getD i []) r ds<0):=by
   have ex:∀ n,n<=l.length->∃ k,k<=n/\(∀ i,i<k->Jxg (l.getD i []) r ds<0)/\(k=n∨¬ Jxg (l.getD k []) r ds<0):=by
    intro n;induction n with
    | zero=>exact λ_=>⟨0,Nat.le_refl _,λi hi=>by omega,.inl rfl⟩
    | succ n ih=>
     intro hn;obtain ⟨k,k1,k2,k3⟩:=ih (by omega);rcases k3 with k3|k3
     ·subst k3;by_cases h0:Jxg (l.getD k []) r ds<0
      ·exact ⟨k+1,Nat.le_refl _,λi hi=>by
        by_cases e:i=k
        ·rw [e];exact h0
        ·exact k2 i (by omega),.inl rfl⟩
      ·exact ⟨k,by omega,k2,.inr h0⟩
     ·exact ⟨k,by omega,k2,.inr k3⟩
   obtain ⟨k,k1,k2,k3⟩:=ex l.length (Nat.le_refl _);have hi:∀ i,k<=i->i<l.length->¬ Jxg (l.getD i []) r ds<0:=λi h1 h2=>by
    rcases k3 with k3|k3
    ·omega
    ·by_cases e:i=k
     ·rw [e];exact k3
     ·exact λh3=>k3 ((Jtr ds).lt_trans (h.1.at (i:=k) (j:=i) (by omega) h2) h3)
   exact ⟨k,Qbj k1 k2 hi,k1,k2,hi⟩
  obtain ⟨k,hk,k1,k2,k3⟩:=hall;rw [hk];have hlt:=h.1;refine ⟨?_,λx=>?_⟩
  ·unfold Lt at hlt ⊢;rw [List.pairwise_append];refine ⟨hlt.sublist (List.take_sublist _ _),List.pairwise_cons.2 ⟨λb hb=>?_,hlt.sublist (List.drop_sublist _ _)⟩,λa ha b hb=>?_⟩
   ·obtain ⟨i,hi,rfl⟩:=List.getElem_of_mem hb;have hik:k+i<l.length:=by simp at hi;omega
    have:=k3 (k+i) (by omega) hik;rw [Jjh [] l hik]at this;rw [List.getElem_drop];rcases (Jtr ds).tot l[k+i] r with e|e|e
    ·exact absurd e this
    ·exact absurd (e ▸ List.getElem_mem hik) hm
    ·exact e
   ·obtain ⟨i,hi,rfl⟩:=List.getElem_of_mem ha;have hik:i<k:=by simp at hi;omega
    have h1:=k2 i hik;rw [Jjh [] l (by omega)]at h1;rw [List.getElem_take];rcases List.mem_cons.1 hb with rfl|hb
    ·exact h1
    ·obtain ⟨j,hj,rfl⟩:=List.getElem_of_mem hb;have hjk:k+j<l.length:=by simp at hj;omega
     rw [List.getElem_drop];have:=h.1.at (i:=i) (j:=k+j) (by omega) hjk;rw [Jjh [] l hjk,Jjh [] l (by omega)]at this;exact this
  ·rw [List.mem_append,List.mem_cons,List.mem_append,List.mem_singleton,<-h.2 x];have e:x∈l↔x∈l.take k∨x∈l.drop k:=by
    conv=>lhs;rw [<-List.take_append_drop k l]
    exact List.mem_append
   rw [e];constructor
   ·rintro (h'|h'|h')
    ·exact .inl (.inl h')
    ·exact .inr h'
    ·exact .inl (.inr h')
   ·rintro ((h'|h')|h')
    ·exact .inl h'
    ·exact .inr (.inr h')
    ·exact .inr (.inl h')
open Go.RowKit Pl Go.Wk
attribute [local irreducible] WC WL QX WD WDB WP
theorem Qbr(v:Value)(w:World)(A:Option Addr)(n c:Nat)(hv:v=.slice A n c): (Instr.buildSlice 35 1 #[(0,v)]).run Tryz.prog w=.ok (.slice (some ⟨w.heap.size,0,none⟩) 1 1) (w.alloc (.cells [v].toArray 40)):=by
 subst hv;kernel_rfl
theorem Jrc{ps:List Pr}{i:Nat}: (ps.map (·.2)).getD i []=(ps.getD i z0).2:=by
 simp only [List.getD,List.getElem?_map];cases ps[i]?<;>rfl
def own(base:Nat)(v:Value)(k:Nat): Prop:=k<base∨v.ownBlock=some k
def OwnR(w:World)(base:Nat)(v:Value)(ls:List Row): Prop:=∃ ps:List Pr,ls=ps.map (·.2)/\w.ownsRow base 40 1 v ps.length (ps.map (·.1))/\∀ p∈ps,RowX w (own base v) p.1 p.2
theorem OwnR.nil(w:World)(base:Nat): OwnR w base (.slice none 0 0) []:=⟨[],rfl,Jxj _ _ _ _,λp hp=>by cases hp⟩
theorem OwnR.ext{w w':World}{base:Nat}{v:Value}{ls:List Row}(h:OwnR w base v ls)(hx:Ext w w'): OwnR w' base v ls:=by
 obtain ⟨ps,h1,h2,h3⟩:=h;exact ⟨ps,h1,Jjc h2 hx,λp hp=>(h3 p hp).ext hx⟩
theorem OwnR.rows{w:World}{base:Nat}{v:Value}{ls:List Row}(h:OwnR w base v ls)(hm:ls.length<=1100000): RowsV w v ls:=by
 obtain ⟨ps,rfl,h2,h3⟩:=h;obtain ⟨A,c,rfl,hc,_⟩:=Jjd h2;exact ⟨ps,A,c,rfl,rfl,hc,by simpa using hm,Rd.own h2,λp hp=>(h3 p hp).v⟩
theorem OwnR.lt{w:World}{base:Nat}{v:Value}{ls:List Row}(h:OwnR w base v ls): ∀ k,v.ownBlock=some k->base<=k/\k<w.heap.size:=by
 obtain ⟨ps,rfl,h2,h3⟩:=h;obtain ⟨A,c,rfl,hc,hf⟩:=Jjd h2;exact hf
theorem appR{P:Program}{n:Nat}{al:AL}{w:World}{Q:Exit->Act->World->Prop}{ops:Array Oper}{rest:List Oper}{d ty:Nat}{pos:String}{aft:Array Edge}{a:World}(hxa:Ext a w){x y:Operand}{v:Value}{ls:List Row}{b:Nat}{vr:Value}{r:Row}(hE:ElT P 35 40 1 24 (.slice none 0 0))(ho:OwnR w a.heap.size v ls)(hb:Blk w b 40 [vr])(hr:RowX w (own a.heap.size v) vr r)(hm:ls.length<=1100000)(kk:∀ v' w',OwnR w' a.heap.size v' (ls++[r])->Ext a w'->w.grownBy w' v.ownBlock->WL P n ops Q rest ((d,v')::al) w')(hx:ev al x=some v:=by rfl)(hy:ev al y=some (.slice (some ⟨b,0,none⟩) 1 1):=by rfl)(hd:Nat.blt d n=true:=by rfl):
  WL P n ops Q (⟨some d,.call { callee:=.builtin .append,args:=#[x,y],argTypes:=#[35,35] },ty,pos,aft,none⟩::rest) al w:=by
 obtain ⟨ps,rfl,h2,h3⟩:=ho;have hone:vr.oneCell'=true:=hr.v.one;refine apo hxa hE h2 hb.one (λu hu=>by rw [List.mem_singleton.1 hu];exact hone) (by unfold maxLen;simp at hm;omega) (by simp at hm;omega) ?_ hx hy hd;intro v' w' ho' hx' hg' hn';have hnew:∀ (p:Pr),RowX w (own a.heap.size v) p.1 p.2->RowX w' (own a.heap.size v') p.1 p.2:=λp hp=>by
  have h1:=hp.mono (N':=λk=>own a.heap.size v k∨own a.heap.size v' k) (λk hk h=>by
   rcases h with h|h|h
   ·exact h
   ·exact .inl h
   ·rcases hn' k h with h4|h4
    ·exact .inr h4
    ·omega)
  obtain ⟨A,c,e1,e2,e3,e4,e5⟩:=h1.grown hg' (λk hk=>.inl (.inr hk));exact ⟨A,c,e1,e2,e3,e4,λh0 ad e hn=>e5 h0 ad e (.inr hn)⟩
 refine kk v' w' ⟨ps++[(vr,r)],by simp,?_,λp hp=>?_⟩ hx' hg'
 ·rw [List.length_append,List.map_append];exact ho'
 ·rcases List.mem_append.1 hp with h'|h'
  ·exact hnew p (h3 p h')
  ·rw [List.mem_singleton.1 h'];exact hnew (vr,r) hr
theorem RowsV.parts{w:World}{v:Value}{ls:List Row}(h:RowsV w v ls): ∃ A c,v=.slice A ls.length c/\ls.length<=c/\ls.length<=1100000/\∃ cs:List Value,Rd w 1 A ls.length cs/\∀ i,i<ls.length->∃ u,cs[i]?=some u/\RowV w u (ls.getD i []):=by
 obtain ⟨ps,A,c,rfl,rfl,h3,h4,h5,h6⟩:=h;refine ⟨A,c,by simp,by simpa using h3,by simpa using h4,ps.map (·.1),by simpa using h5,λi hi=>?_⟩
 have hi':i<ps.length:=by simpa using hi
 exact ⟨_,Jlz hi',by rw [Jrc];exact h6 _ (getD_mem' z0 ps hi')⟩
open Go.RowKit Pl Go.Wk
theorem Qqm{w:World}{base:Nat}{A:Option Addr}{n c:Nat}{fid:FuncId}{first cap:Array Value}{ps:List Pr}{ds:List Bool}(hD:Dat w base (.slice A n c) ps)(hn:ps.length=n)(hC:CF w (Value.slice A n c).ownBlock fid first cap ps ds)(h12:n<=12){lim:Int}:
  Ret Tryz.prog 150 [.slice A n c,.int .i64 0,.int .i64 (n:Int),.int .i64 lim,.func (.func fid) first cap] w λv w'=>∃ ps',DP w w' base A n c ps ps'/\SOn z0 (fP ds) ps' 0 n:=by
 refine Jjb Tryz.func150 Tryz.ntmps150 rfl (by kernel_rfl) rfl ?_;refine ρ ?_;refine Jqn (fun (_:Unit)=>[(0,.slice A n c),(1,.int .i64 0),(2,.int .i64 (n:Int)),(3,.int .i64 lim),(4,.func (.func fid) first cap)]) (λ_ w'=>w'=w) (λ_=>0) () sB rfl ?_;rintro _ w' rfl;refine ρ ?_;refine ct ?_ ?_
 ·exact decide_eq_true (by omega)
 refine ρ ?_;refine cl (Jds (a:=0) (ai:=0) (bi:=(n:Int)) hD hn rfl rfl (Nat.le_refl _) (by omega) (by omega) hC.pack) ?_;rintro v w2 ⟨q2,k1,k2,k3,k4⟩;refine ρ ?_;exact Xwm ⟨q2,(DP.start hD hn).ins k1 k2 k4,k3⟩
theorem Qjv{w:World}{base:Nat}{A:Option Addr}{n c:Nat}{fid:FuncId}{first cap:Array Value}{ps:List Pr}{ds:List Bool}(hD:Dat w base (.slice A n c) ps)(hn:ps.length=n)(hmx:n<=1100000)(hC:CF w (Value.slice A n c).ownBlock fid first cap ps ds):
  Ret Tryz.prog 118 [.slice A n c,.func (.func fid) first cap] w λv w'=>∃ ps',DP w w' base A n c ps ps'/\(n<=12->SOn z0 (fP ds) ps' 0 n):=by
 refine Jjb Tryz.func118 Tryz.ntmps118 rfl (by kernel_rfl) rfl ?_;refine ρ ?_;refine kv 10 (u:=.int .u64 (n:Int)) (congrArg (Value.int .u64) (Qpt (by omega))) ?_;refine cl (Jnv n (by omega) w) ?_;rintro v w' ⟨rfl,rfl⟩;refine ρ ?_;have l3:Jkv n<=48:=Jgd (by omega);by_cases h12:n<=12
 ·refine cl (Qqm hD hn hC h12) ?_;rintro v w2 ⟨q,H,hs⟩;refine ρ ?_;exact Qmk ⟨q,H,λ_=>hs⟩
 ·refine cl (Xzb n (a:=0) (b:=n) (ai:=0) (bi:=(n:Int)) (lim:=(Jkv n:Int)) hD hn (by omega) hC rfl rfl (by omega) (Nat.le_refl _) (by omega) (by omega)) ?_;rintro v w2 ⟨q,H⟩;refine ρ ?_;exact Qmk ⟨q,H,λh=>absurd h h12⟩
theorem Qhc{α:Type}{z:α}{f:α->α->Int}(hf:PreC f){q:List α}{n:Nat}: SOn z f q 0 n↔∀ k,0<k->k<n->¬ f (q.getD k z) (q.getD (k-1) z)<0:=by
 constructor
 ·intro h k h0 hk hlt;have:=h (k-1) k (by omega) (by omega) hk;have:=hf.anti (q.getD k z) (q.getD (k-1) z);omega
 ·intro h i j _ hij hj;induction j with
  | zero=>omega
  | succ j ih=>
   have h1:=h (j+1) (by omega) hj;have h2:=hf.anti (q.getD (j+1) z) (q.getD j z);simp only [Nat.add_sub_cancel]at h1;by_cases e:i=j
   ·subst e;omega
   ·exact hf.trans _ _ _ (ih (by omega) (by omega)) (by omega)
theorem Qcs{w:World}{A:Option Addr}{n:Nat}{ps:List Pr}(hR:Rd w 1 A n (ps.map (·.1)))(hn:ps.length=n){i:Nat}(hi:i<n): w.cell? (adr A i)=some (ps.getD i z0).1:=hR.cell (Jlz (hn.symm ▸ hi))
theorem Jkx{ps:List Pr}{n:Nat}(hn:ps.length=n){i:Nat}(hi:i<n): ps.getD i z0∈ps:=getD_mem' z0 ps (hn.symm ▸ hi)
theorem CF.none{w:World}{fid:FuncId}{first cap:Array Value}{ps:List Pr}{ds:List Bool}{row:Option Nat}(h:CF w row fid first cap ps ds){w':World}(hx:Ext w w'){p q:Pr}(hp:p∈ps)(hq:q∈ps):
  Ret Tryz.prog fid (first.toList++[p.1,q.1]++cap.toList) w' λr w''=>r=.int .i64 (fP ds p q)/\Ext w' w'':=h w' (Jqj hx _) p q hp hq
theorem Qxc{w:World}{A:Option Addr}{n c:Nat}{fid:FuncId}{first cap:Array Value}{row:Option Nat}{ps:List Pr}{ds:List Bool}(hR:Rd w 1 A n (ps.map (·.1)))(hn:ps.length=n)(hmx:n<=1100000)(hC:CF w row fid first cap ps ds):
  Ret Tryz.prog 116 [.slice A n c,.func (.func fid) first cap] w λv w'=>Ext w w'/\∃ t:Bool,v=.bool t/\(t=true↔SOn z0 (fP ds) ps 0 n):=by
 refine Jjb Tryz.func116 Tryz.ntmps116 rfl (by kernel_rfl) rfl ?_;refine ρ ?_;refine Jqn (fun (j:Nat)=>[(0,.slice A n c),(1,.func (.func fid) first cap),(5,.int .i64 ((j:Int)-1))]) (λj w'=>Ext w w'/\j<=n/\∀ k,j<=k->0<k->k<n->¬ fP ds (ps.getD k z0) (ps.getD (k-1) z0)<0) (λj=>j) n sO ⟨Ext.refl w,Nat.le_refl _,λk h1 _ h2=>by omega⟩ ?_;rintro j w1 ⟨hx,hj,hI⟩;refine ρ ?_;refine ci (λh=>?_) (λh=>?_)
 ·have h2:2<=j:=by have:=of_decide_eq_true h;omega
  have lj:j-1<n:=by omega
  have lj2:j-2<n:=by omega
  refine ρ ?_;refine dr [(0,0),(0,1),(0,2),(0,3),(0,4),(0,5),(0,6),(0,7),(0,8),(0,9),(1,10),(0,11)] (by kernel_rfl) ?_;have hx2:Ext w w1.drew:=hx.drew;have hR2:=hR.ext hx2;refine ρd ?_;refine dix (j-1) hR2 lj ?_;refine ρd ?_;refine dld (Qcs hR2 hn lj) ?_;refine ρd ?_;refine dix (j-2) hR2 lj2 ?_;refine ρd ?_;refine dld (Qcs hR2 hn lj2) ?_;refine ρd ?_;refine Qxr (hC.none hx2 (Jkx hn lj) (Jkx hn lj2)) ?_;rintro r w2 ⟨rfl,hx3⟩;refine ⟨hx3,?_⟩;refine ρd ?_;refine ρ ?_;refine ci (λh=>?_) (λh=>?_)
  ·refine ρ ?_;refine Jjq ⟨hx2.trans hx3,false,rfl,⟨λe=>(by cases e),λe=>?_⟩⟩;have:=(Qhc (preP ds)).1 e (j-1) (by omega) lj;exact absurd (of_decide_eq_true h) this
  ·refine ρ ?_;refine Jjt (j-1) sO ⟨hx2.trans hx3,by omega,λk k1 k2 k3=>?_⟩ (by omega);by_cases e:k=j-1
   ·subst e;exact of_decide_eq_false h
   ·exact hI k (by omega) k2 k3
 ·refine ρ ?_;have h1:j<=1:=by have:=of_decide_eq_false h;omega
  exact Jjq ⟨hx,true,rfl,⟨λ_=>(Qhc (preP ds)).2 λk k1 k2=>hI k (by omega) k1 k2,λ_=>rfl⟩⟩
theorem Qlg{P:Program}{w:World}{t e base n c k bytes:Nat}{z:Value}{A:Option Addr}{xs:List Value}(hE:ElT P t e 1 bytes z)(hz1:z.cells = #[z])(hz2:z.oneCell'=true)(h:w.ownsRow base e 1 (.slice A n c) n xs)(hk:k<=n)(ty:TypeId):
  ∃ w',(Builtin.clear_ #[t] ty #[.slice (if c=k then A else A.map (·.add (k*1))) (n-k) (c-k)]).run P w=.ok (.tuple #[]) w'/\w'.ownsRow base e 1 (.slice A k c) k (xs.take k)/\w.grownBy w' (Value.slice A n c).ownBlock:=by
 obtain ⟨i,hi,hz,hsz,hbt⟩:=hE.info;obtain ⟨hl,hh⟩:=h;have hl':xs.length=n:=by omega
 rcases Nat.eq_or_lt_of_le hk with e0|hlt
 ·subst e0;refine ⟨w,?_,?_,Jqj (Ext.refl w) _⟩
  ·rw [Nat.sub_self];generalize (if c=k then A else A.map (·.add (k*1)))=B
   cases B<;>simp [Builtin.clear_,run_underlying hE.sl]
  ·rw [List.take_of_length_le (by omega)];exact ⟨hl,hh⟩
 ·rcases hh with ⟨hv,h0⟩|⟨g,cap,cur,hv,hb,hg,hle,hmx,hcs,hcur⟩
  ·omega
  ·injection hv with e1 e2 e3
   subst e1;subst e3;have hck:¬ c=k:=by omega
   rw [if_neg hck];have e4:(some (⟨g,0,none⟩:Addr)).map (·.add (k*1))=some ⟨g,k,none⟩:=by simp [Jzn]
   rw [e4];have hst:=run_storeCells_at (P:=P) g k e (List.replicate (n-k) z) 0 cur w hg (by simp;omega) (λv hv=>by rw [List.eq_of_mem_replicate hv];exact hz2);refine ⟨w.setRow g (cur.toList.take (k+0)++List.replicate (n-k) z++cur.toList.drop (k+0+(List.replicate (n-k) z).length)).toArray,?_,?_,Jzb w g _⟩
   ·have hn0:∃ m,n-k=m+1:=⟨n-k-1,by omega⟩;obtain ⟨m,hm⟩:=hn0;have hzz:(Builtin.zeroCells z.cells (n-k)).toList=List.replicate (n-k) z:=by
     rw [hz1];simp only [Builtin.zeroCells];apply List.ext_getElem
     ·simp
     ·intro j h1 h2;simp [Nat.mod_one]
    rw [hm]at hst hzz ⊢;have hzr:(zeroValue e).run P w=.ok z w:=by simp [zeroValue,typeInfo,hi,hz]
    simp only [Nat.add_zero,List.length_replicate,List.append_assoc]at hst ⊢;simp [Builtin.clear_,run_underlying hE.sl,hzr,hzz,hst]
   ·simp only [Nat.add_zero,List.length_replicate];refine ⟨by rw [List.length_take];omega,.inr ⟨g,c,_,rfl,hb,setRow_heap w g cur _ e _ hg,by omega,hmx,?_,?_⟩⟩
    ·simp;omega
    ·simp only [Nat.mul_one]at hcur ⊢;rw [List.append_assoc,List.take_append_of_le_length (by simp;omega),<-hcur];conv=>rhs;rw [List.take_take]
     rw [List.take_take,Nat.min_self,Nat.min_eq_left (Nat.le_of_lt hlt)]
end Go.Proofs.YtefpailelagbkaaGreatDoor
