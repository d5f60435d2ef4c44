/- Part 20 of the proof: Pb, Pt, Pg, Lf5, Lf6. -/
import Derived.Test.YtefpailelagbkaaGreatDoorJ19
set_option linter.unusedVariables false
set_option maxRecDepth 100000
set_option maxHeartbeats 40000000
namespace Go.Proofs.YtefpailelagbkaaGreatDoor
namespace Pl
theorem Qbm{ds:List Bool}: ∀ {m:Nat} {x z:Row},x.take m=z.take m->m<x.length->m<z.length->cmpV (x.getD m V0) (z.getD m V0)≠0->Jxg x z ds=neg (ds.getD m false) (cmpV (x.getD m V0) (z.getD m V0))
 | 0,a::x,b::z,_,_,_,h=>by
  simp only [List.getD_cons_zero]at h ⊢;simp only [Jxg];rw [if_neg h]
 | m+1,a::x,b::z,h,h1,h2,h3=>by
  simp only [List.take_succ_cons,List.cons.injEq]at h;simp only [List.getD_cons_succ]at h3 ⊢;simp only [Jxg];rw [if_pos (by rw [h.1];exact Jqk b),Qbm h.2 (by simpa using h1) (by simpa using h2) h3];simp [List.getD]
 | _,[],_,_,h,_,_=>by simp at h
 | _,_::_,[],_,_,h,_=>by simp at h
theorem neg_lt{d:Bool}{a b:V}(h:neg d (cmpV a b)<0): cmpV a b≠0:=by
 intro e;rw [e]at h;unfold neg at h;split at h<;>omega
theorem Jhr(d:Bool)(a b:V): neg d (cmpV b a) = - neg d (cmpV a b):=(Jnn d).anti a b
theorem Xkf{ds:List Bool}{m:Nat}{x z:Row}(h:x.take m=z.take m)(h1:m<x.length)(h2:m<z.length)(h3:neg (ds.getD m false) (cmpV (x.getD m V0) (z.getD m V0))<0): Jxg x z ds<0:=by
 rw [Qbm h h1 h2 (neg_lt h3)];exact h3
def Xwd(d:Bool)(l:List (V×Nat)): Prop:=l.Pairwise λp q=>neg d (cmpV p.1 q.1)<0
abbrev IX:= AX V
structure AX.Srt(X:IX)(ds:List Bool): Prop where
 d0:X.d0=V0
 srt:∀ v,v<X.F->∀ k,Xwd (ds.getD v false) (X.E v k)
theorem AX.ext_at_col{X:IX}{n:Nat}{y x:Row}{a:V}(hx:x∈X.ext n (y++[a])): x.length=y.length+1+n/\x.take y.length=y/\x.getD y.length V0=a:=by
 obtain ⟨h1,h2,_⟩:=(AX.ext_mem n _ x).1 hx;rw [List.length_append,List.length_singleton]at h1 h2;refine ⟨h1,?_,?_⟩
 ·have:=congrArg (List.take y.length) h2;rw [List.take_take,Nat.min_eq_left (by omega),List.take_append_of_le_length (Nat.le_refl _),List.take_length]at this;exact this
 ·have:=congrArg (λl=>l.getD y.length V0) h2;simpa [List.getD] using this
theorem AX.Srt.ext{X:IX}{ds:List Bool}(h:X.Srt ds): ∀ (n:Nat) (y:Row),y.length+n=X.F->Lt ds (X.ext n y)
 | 0,y,_=>List.pairwise_singleton _ _
 | n+1,y,e=>by
  rw [AX.ext];refine List.pairwise_flatMap.2 ⟨λp _=>h.ext n _ (by simp;omega),(h.srt y.length (by omega) _).imp fun {p q} hpq x hx z hz=>?_⟩;obtain ⟨h1,h2,h3⟩:=AX.ext_at_col hx;obtain ⟨h4,h5,h6⟩:=AX.ext_at_col hz;exact Xkf (m:=y.length) (by rw [h2,h5]) (by omega) (by omega) (by rw [h3,h6];exact hpq)
def bef(d:Bool)(v:V): List (V×Nat)->Nat
 | []=>0
 | p::l=>(if neg d (cmpV p.1 v)<0 then p.2 else 0)+bef d v l
end Pl
namespace Pl
inductive Tr where
 | nil
 | node (l:Tr) (v:V) (x:Nat) (r:Tr)
namespace Tr
def ht: Tr->Nat
 | .nil=>0
 | .node l _ _ r=>max l.ht r.ht+1
def sz: Tr->Nat
 | .nil=>0
 | .node l _ _ r=>l.sz+1+r.sz
def sum: Tr->Nat
 | .nil=>0
 | .node l _ x r=>l.sum+x+r.sum
def toL: Tr->List (V×Nat)
 | .nil=>[]
 | .node l v x r=>l.toL++(v,x)::r.toL
theorem sum_eq: ∀ t:Tr,t.sum=tot t.toL
 | .nil=>rfl
 | .node l v x r=>by rw [sum,toL,Jlk,tot,sum_eq l,sum_eq r];simp only;omega
theorem sz_eq: ∀ t:Tr,t.sz=t.toL.length
 | .nil=>rfl
 | .node l v x r=>by rw [sz,toL,List.length_append,List.length_cons,sz_eq l,sz_eq r];omega
theorem ht_le: ∀ t:Tr,t.ht<=t.sz
 | .nil=>Nat.le_refl _
 | .node l v x r=>by have:=ht_le l;have:=ht_le r;simp only [ht,sz];omega
def left: Tr->Tr
 | .nil=>.nil
 | .node l _ _ _=>l
def right: Tr->Tr
 | .nil=>.nil
 | .node _ _ _ r=>r
def bal(l:Tr)(v:V)(x:Nat)(r:Tr): Tr :=
 if r.ht+1<l.ht then
  match l with
  | .nil=>.node .nil v x r
  | .node ll lv lx lr=>
   if lr.ht<=ll.ht then .node ll lv lx (.node lr v x r)
   else match lr with
    | .nil=>.node (.node ll lv lx .nil) v x r
    | .node ml mv mx mr=>.node (.node ll lv lx ml) mv mx (.node mr v x r)
 else if l.ht+1<r.ht then
  match r with
  | .nil=>.node l v x .nil
  | .node rl rv rx rr=>
   if rl.ht<=rr.ht then .node (.node l v x rl) rv rx rr
   else match rl with
    | .nil=>.node l v x (.node .nil rv rx rr)
    | .node ml mv mx mr=>.node (.node l v x ml) mv mx (.node mr rv rx rr)
 else .node l v x r
theorem toL_bal(l:Tr)(v:V)(x:Nat)(r:Tr): (bal l v x r).toL=l.toL++(v,x)::r.toL:=by
 unfold bal;split
 ·cases l with
  | nil=>rfl
  | node ll lv lx lr=>
   simp only;split
   ·simp [toL]
   ·cases lr<;>simp [toL]
 ·split
  ·cases r with
   | nil=>rfl
   | node rl rv rx rr=>
    simp only;split
    ·simp [toL]
    ·cases rl<;>simp [toL]
  ·rfl
def put(d:Bool)(v:V)(x:Nat): Tr->Tr
 | .nil=>.node .nil v x .nil
 | .node l a y r=>if neg d (cmpV v a)<0 then bal (put d v x l) a y r else if 0<neg d (cmpV v a) then bal l a y (put d v x r) else .node l v x r
theorem put_last{d:Bool}{v:V}{x:Nat}: ∀ {t:Tr},(∀ p∈t.toL,0<neg d (cmpV v p.1))->(put d v x t).toL=t.toL++[(v,x)]
 | .nil,_=>rfl
 | .node l a y r,h=>by
  have h1:=h (a,y) (by simp [toL]);have h2:=put_last (d:=d) (v:=v) (x:=x) (t:=r) (λp hp=>h p (by simp [toL,hp]));simp only at h1;rw [put,if_neg (by omega),if_pos h1,toL_bal,h2];simp [toL]
theorem put_first{d:Bool}{v:V}{x:Nat}: ∀ {t:Tr},(∀ p∈t.toL,neg d (cmpV v p.1)<0)->(put d v x t).toL=(v,x)::t.toL
 | .nil,_=>rfl
 | .node l a y r,h=>by
  have h1:=h (a,y) (by simp [toL]);have h2:=put_first (d:=d) (v:=v) (x:=x) (t:=l) (λp hp=>h p (by simp [toL,hp]));simp only at h1;rw [put,if_pos h1,toL_bal,h2];simp [toL]
theorem Xqc(l:Tr)(v:V)(x:Nat)(r:Tr): (bal l v x r).sz=l.sz+1+r.sz:=by rw [sz_eq,toL_bal,List.length_append,List.length_cons,sz_eq l,sz_eq r];omega
theorem put_sz(d:Bool)(v:V)(x:Nat): ∀ t:Tr,(put d v x t).sz<=t.sz+1
 | .nil=>Nat.le_refl _
 | .node l a y r=>by
  have h1:=put_sz d v x l;have h2:=put_sz d v x r;unfold put;split
  ·rw [Xqc,sz];omega
  ·split
   ·rw [Xqc,sz];omega
   ·rw [sz,sz];omega
def befT(d:Bool)(v:V): Tr->Nat
 | .nil=>0
 | .node l a y r=>if neg d (cmpV v a)<0 then befT d v l else if neg d (cmpV v a)=0 then l.sum else l.sum+y+befT d v r
def hasT(d:Bool)(v:V): Tr->Bool
 | .nil=>false
 | .node l a y r=>if neg d (cmpV v a)<0 then hasT d v l else if neg d (cmpV v a)=0 then true else hasT d v r
theorem Xkt(d:Bool)(v:V)(l m:List (V×Nat)): bef d v (l++m)=bef d v l+bef d v m:=by
 induction l with
 | nil=>simp [bef]
 | cons p l ih=>rw [List.cons_append,bef,bef,ih,Nat.add_assoc]
theorem Qwt{d:Bool}{v:V}: ∀ {l:List (V×Nat)},(∀ p∈l,neg d (cmpV p.1 v)<0)->bef d v l=tot l
 | [],_=>rfl
 | p::l,h=>by rw [bef,tot,if_pos (h p (List.mem_cons_self ..)),Qwt λq hq=>h q (List.mem_cons_of_mem _ hq)]
theorem Jtw{d:Bool}{v:V}: ∀ {l:List (V×Nat)},(∀ p∈l,¬ neg d (cmpV p.1 v)<0)->bef d v l=0
 | [],_=>rfl
 | p::l,h=>by rw [bef,if_neg (h p (List.mem_cons_self ..)),Jtw λq hq=>h q (List.mem_cons_of_mem _ hq)]
theorem befT_eq{d:Bool}{v:V}: ∀ {t:Tr},Xwd d t.toL->befT d v t=bef d v t.toL/\(hasT d v t=true↔v∈t.toL.map (·.1))
 | .nil,_=>⟨rfl,by simp [hasT,toL]⟩
 | .node l a y r,h=>by
  have N:=Jnn d;obtain ⟨h1,h2,h3⟩:=List.pairwise_append.1 h;obtain ⟨h4,h5⟩:=List.pairwise_cons.1 h2;have il:=befT_eq (v:=v) h1;have ir:=befT_eq (v:=v) h5;have hla:∀ p∈l.toL,neg d (cmpV p.1 a)<0:=λp hp=>h3 p hp (a,y) (List.mem_cons_self ..);have hva:=Jhr d v a;rw [toL,befT,hasT,Xkt,bef];by_cases c1:neg d (cmpV v a)<0
  ·have hr:∀ p∈r.toL,¬ neg d (cmpV p.1 v)<0:=λp hp h'=>by
    have:=N.trans p.1 v a (by omega) (by omega);have:=h4 p hp;have:=Jhr d a p.1;simp only at *;omega
   rw [if_pos c1,if_pos c1,il.1,Jtw hr,if_neg (by simp only;omega)];refine ⟨by omega,?_⟩;rw [il.2,List.map_append,List.mem_append,List.map_cons,List.mem_cons];constructor
   ·exact .inl
   ·rintro (h'|rfl|h')
    ·exact h'
    ·rw [Jqk]at c1;unfold neg at c1;split at c1<;>omega
    ·obtain ⟨p,hp,rfl⟩:=List.mem_map.1 h';have:=h4 p hp;have:=Jhr d a p.1;simp only at *;omega
  ·rw [if_neg c1,if_neg c1];by_cases c0:neg d (cmpV v a)=0
   ·have e:v=a:=N.zero v a c0;subst e;have hr:∀ p∈r.toL,¬ neg d (cmpV p.1 v)<0:=λp hp h'=>by
     have:=h4 p hp;have:=Jhr d v p.1;simp only at *;omega
    rw [if_pos c0,if_pos c0,Qwt hla,Jtw hr,if_neg (by simp only;omega),sum_eq];exact ⟨by omega,by simp⟩
   ·rw [if_neg c0,if_neg c0];have hl:∀ p∈l.toL,neg d (cmpV p.1 v)<0:=λp hp=>by
     have h1:=hla p hp;have h2:=N.trans p.1 a v (by omega) (by omega);have h3:neg d (cmpV p.1 v)≠0:=λe=>by
      have:=N.zero p.1 v e;rw [this]at h1;omega
     simp only at *;omega
    rw [Qwt hl,if_pos (by simp only;omega),ir.1,sum_eq];refine ⟨by simp only;omega,?_⟩;rw [ir.2,List.map_append,List.mem_append,List.map_cons,List.mem_cons];constructor
    ·exact λh'=>.inr (.inr h')
    ·rintro (h'|rfl|h')
     ·obtain ⟨p,hp,rfl⟩:=List.mem_map.1 h';have:=hl p hp;rw [Jqk]at this;unfold neg at this;split at this<;>omega
     ·exact absurd (by rw [Jqk];unfold neg;split<;>rfl) c0
     ·exact h'
def findT(k:Nat): Tr->V×Nat
 | .nil=>(V0,0)
 | .node l a y r=>if k<l.sum then findT k l else if l.sum+y<=k then ((findT (k-(l.sum+y)) r).1,l.sum+y+(findT (k-(l.sum+y)) r).2) else (a,l.sum)
theorem findT_eq: ∀ {t:Tr} {k:Nat},k<t.sum->∃ l1 l2 y,t.toL=l1++((findT k t).1,y)::l2/\tot l1=(findT k t).2/\(findT k t).2<=k/\k<(findT k t).2+y
 | .nil,k,h=>by simp [sum]at h
 | .node l a y r,k,h=>by
  rw [sum]at h;rw [findT,toL];split
  ·rename_i h1;obtain ⟨l1,l2,z,e1,e2,e3,e4⟩:=findT_eq h1;exact ⟨l1,l2++(a,y)::r.toL,z,by rw [e1];simp,e2,e3,e4⟩
  ·split
   ·rename_i h1 h2;obtain ⟨l1,l2,z,e1,e2,e3,e4⟩:=findT_eq (t:=r) (k:=k-(l.sum+y)) (by omega);refine ⟨l.toL++(a,y)::l1,l2,z,?_,?_,?_,?_⟩
    ·simp only;rw [List.append_assoc,List.cons_append,<-e1]
    ·rw [Jlk,tot,e2,sum_eq];simp only;omega
    ·simp only;omega
    ·simp only;omega
   ·exact ⟨l.toL,r.toL,y,rfl,(sum_eq l).symm,by simp only;omega,by simp only;omega⟩
end Tr
end Pl
namespace Pl
def Jbs(wt:Row->Nat)(m:Nat)(rs:List Row)(k:Row): List (V×Nat):=(rs.filter λx=>decide (x.take m=k) && decide (0<wt x)).map λx=>(x.getD m V0,wt x)
def stepG(d:Bool)(wt:Row->Nat)(m:Nat)(bs:List (Row×Tr))(x:Row): List (Row×Tr) :=
 if wt x=0 then bs
 else if (bs.getLast?.map (·.1))=some (x.take m) then bs.dropLast++[(x.take m,Tr.put d (x.getD m V0) (wt x) ((bs.getLast?.map (·.2)).getD .nil))]
 else bs++[(x.take m,Tr.put d (x.getD m V0) (wt x) .nil)]
def Qzp(d:Bool)(l:List (V×Nat)): List (V×Nat):=if d then l.reverse else l
structure GInv(d:Bool)(wt:Row->Nat)(m:Nat)(rs:List Row)(bs:List (Row×Tr)): Prop where
 lt:Lt [] (bs.map (·.1))
 con:∀ b∈bs,b.2.toL=Qzp d (Jbs wt m rs b.1)/\Jbs wt m rs b.1≠[]
 all:∀ k,Jbs wt m rs k≠[]->k∈bs.map (·.1)
theorem Jnf(wt:Row->Nat)(m:Nat)(rs:List Row)(x k:Row): Jbs wt m (rs++[x]) k=Jbs wt m rs k++if x.take m=k/\0<wt x then [(x.getD m V0,wt x)] else []:=by
 unfold Jbs;rw [List.filter_append,List.map_append];congr 1
 by_cases h:x.take m=k/\0<wt x
 ·rw [if_pos h,List.filter_cons_of_pos (by simp [h]),List.filter_nil];rfl
 ·rw [if_neg h,List.filter_cons_of_neg (by simpa using h),List.filter_nil];rfl
theorem entL_mem{wt:Row->Nat}{m:Nat}{rs:List Row}{k:Row}{p:V×Nat}: p∈Jbs wt m rs k↔∃ x∈rs,x.take m=k/\x.getD m V0=p.1/\wt x=p.2/\0<p.2:=by
 unfold Jbs;rw [List.mem_map];constructor
 ·rintro ⟨x,hx,rfl⟩;obtain ⟨h1,h2⟩:=List.mem_filter.1 hx;simp only [Bool.and_eq_true,decide_eq_true_eq]at h2;exact ⟨x,h1,h2.1,rfl,rfl,h2.2⟩
 ·rintro ⟨x,hx,h1,h2,h3,h4⟩;refine ⟨x,List.mem_filter.2 ⟨hx,by simp [h1,h3,h4]⟩,?_⟩;rw [h2,h3]
theorem entL_ne{wt:Row->Nat}{m:Nat}{rs:List Row}{k:Row}: Jbs wt m rs k≠[]↔∃ x∈rs,x.take m=k/\0<wt x:=by
 constructor
 ·intro h;obtain ⟨p,hp⟩:=List.exists_mem_of_ne_nil _ h;obtain ⟨x,h1,h2,h3,h4,h5⟩:=entL_mem.1 hp;exact ⟨x,h1,h2,by omega⟩
 ·rintro ⟨x,h1,h2,h3⟩ e;have:=(entL_mem (p:=(x.getD m V0,wt x))).2 ⟨x,h1,h2,rfl,rfl,h3⟩;rw [e]at this;cases this
theorem Jgz: ∀ (m:Nat) {x y:Row},Jxg x y []<0->Jxg (x.take m) (y.take m) []<=0
 | 0,x,y,_=>by simp [Jxg]
 | m+1,[],[],h=>by simp [Jxg]
 | m+1,[],b::y,h=>by simp [Jxg]
 | m+1,a::x,[],h=>by simp [Jxg]at h
 | m+1,a::x,b::y,h=>by
  simp only [Jxg,List.take_succ_cons,List.drop_nil]at h ⊢;by_cases e:cmpV a b=0
  ·rw [if_pos e]at h ⊢;exact Jgz m h
  ·rw [if_neg e]at h ⊢;omega
theorem Jnp: ∀ (m:Nat) {x y:Row},Jxg x y []<0->x.take m=y.take m->x.length=m+1->y.length=m+1->cmpV (x.getD m V0) (y.getD m V0)<0
 | 0,[a],[b],h,_,_,_=>by
  simp only [Jxg]at h;by_cases e:cmpV a b=0
  ·rw [if_pos e]at h;omega
  ·rw [if_neg e]at h;exact h
 | m+1,a::x,b::y,h,ht,h1,h2=>by
  simp only [List.take_succ_cons,List.cons.injEq]at ht;simp only [Jxg,List.drop_nil]at h;rw [if_pos (by rw [ht.1];exact Jqk b)]at h;simp only [List.getD_cons_succ];exact Jnp m h ht.2 (by simpa using h1) (by simpa using h2)
theorem Jwf{α:Type}{l:List α}(h:l≠[]): ∃ i z,l=i++[z]/\l.getLast?=some z/\l.dropLast=i:=by
 refine ⟨l.dropLast,l.getLast h,(List.dropLast_concat_getLast h).symm,List.getLast?_eq_some_getLast h,rfl⟩
theorem GInv.step{d:Bool}{wt:Row->Nat}{m:Nat}{rs:List Row}{bs:List (Row×Tr)}(h:GInv d wt m rs bs){x:Row}(hs:Lt [] (rs++[x]))(hl:∀ y∈rs++[x],y.length=m+1): GInv d wt m (rs++[x]) (stepG d wt m bs x):=by
 have hxl:=hl x (by simp);have hlt:∀ y∈rs,Jxg y x []<0:=λy hy=>(List.pairwise_append.1 hs).2.2 y hy x (by simp);by_cases h0:wt x=0
 ·have e:∀ k,Jbs wt m (rs++[x]) k=Jbs wt m rs k:=λk=>by rw [Jnf,if_neg (by omega),List.append_nil]
  rw [stepG,if_pos h0];exact ⟨h.lt,λb hb=>by rw [e];exact h.con b hb,λk hk=>h.all k (by rw [<-e k];exact hk)⟩
 have h1:0<wt x:=by omega
 have eo:∀ k,k≠x.take m->Jbs wt m (rs++[x]) k=Jbs wt m rs k:=λk hk=>by rw [Jnf,if_neg (λh'=>hk h'.1.symm),List.append_nil]
 have ex:Jbs wt m (rs++[x]) (x.take m)=Jbs wt m rs (x.take m)++[(x.getD m V0,wt x)]:=by rw [Jnf,if_pos ⟨rfl,h1⟩]
 have hkle:∀ k∈bs.map (·.1),Jxg k (x.take m) []<=0:=λk hk=>by
  obtain ⟨b,hb,rfl⟩:=List.mem_map.1 hk;obtain ⟨y,hy,e,_⟩:=entL_ne.1 (h.con b hb).2;rw [<-e];exact Jgz m (hlt y hy)
 have hins:∀ p∈Jbs wt m rs (x.take m),cmpV p.1 (x.getD m V0)<0:=λp hp=>by
  obtain ⟨y,hy,e1,e2,_⟩:=entL_mem.1 hp;rw [<-e2];exact Jnp m (hlt y hy) e1 (hl y (by simp [hy])) hxl
 have hput:∀ t:Tr,t.toL=Qzp d (Jbs wt m rs (x.take m))->(Tr.put d (x.getD m V0) (wt x) t).toL=Qzp d (Jbs wt m (rs++[x]) (x.take m)):=λt ht=>by
  rw [ex];cases d with
  | false=>
   rw [Tr.put_last,ht];· rfl
   intro p hp;rw [ht]at hp;have:=hins p hp;have:=cmp_V.anti p.1 (x.getD m V0);simp only [neg];rw [if_neg (by simp)];omega
  | true=>
   rw [Tr.put_first,ht];· simp [Qzp]
   intro p hp;rw [ht]at hp;have:=hins p (by simpa [Qzp] using hp);have:=cmp_V.anti p.1 (x.getD m V0);simp only [neg];rw [if_pos trivial];omega
 rw [stepG,if_neg h0];by_cases hl2:(bs.getLast?.map (·.1))=some (x.take m)
 ·rw [if_pos hl2];have hne:bs≠[]:=by intro e;rw [e]at hl2;cases hl2
  obtain ⟨i,z,e1,e2,e3⟩:=Jwf hne;rw [e2]at hl2 ⊢;have hz:z.1=x.take m:=by simpa using hl2
  rw [e3];have hzc:=h.con z (by rw [e1];simp);have hni:∀ b∈i,b.1≠x.take m:=λb hb e=>by
   have:=h.lt;rw [e1,List.map_append]at this;have:=(List.pairwise_append.1 this).2.2 b.1 (List.mem_map_of_mem hb) z.1 (by simp);rw [hz,e,Jxq]at this;omega
  refine ⟨?_,λb hb=>?_,λk hk=>?_⟩
  ·have:=h.lt;rw [e1]at this;simpa [hz] using this
  ·rcases List.mem_append.1 hb with hb|hb
   ·rw [eo _ (hni b hb)];exact h.con b (by rw [e1];simp [hb])
   ·rw [List.mem_singleton.1 hb];refine ⟨hput _ (by rw [<-hz];simpa using hzc.1),?_⟩;simp only;rw [ex];simp
  ·by_cases e:k=x.take m
   ·rw [e];simp
   ·rw [eo k e]at hk;have:=h.all k hk;rw [e1,List.map_append,List.mem_append]at this;rcases this with h'|h'
    ·rw [List.map_append,List.mem_append];exact .inl h'
    ·rw [List.map_singleton,List.mem_singleton,hz]at h';exact absurd h' e
 ·rw [if_neg hl2];have hnk:x.take m ∉ bs.map (·.1):=λhk=>by
   have hne:bs≠[]:=by intro e;rw [e]at hk;cases hk
   obtain ⟨i,z,e1,e2,e3⟩:=Jwf hne;rw [e2]at hl2;have hz:z.1≠x.take m:=λe=>hl2 (by simp [e]);rw [e1,List.map_append,List.mem_append]at hk;have h5:=h.lt;rw [e1,List.map_append]at h5;rcases hk with hk|hk
   ·have h6:=(List.pairwise_append.1 h5).2.2 _ hk z.1 (by simp);have h7:=hkle z.1 (by rw [e1];simp);have:=Jtr [] |>.anti (x.take m) z.1;omega
   ·rw [List.map_singleton,List.mem_singleton]at hk;exact hz hk.symm
  have he:Jbs wt m rs (x.take m)=[]:=Classical.byContradiction λh'=>hnk (h.all _ h');refine ⟨?_,λb hb=>?_,λk hk=>?_⟩
  ·rw [List.map_append];refine List.pairwise_append.2 ⟨h.lt,by simp,λk hk k' hk'=>?_⟩;rw [List.map_singleton,List.mem_singleton]at hk';rw [hk'];have h7:=hkle k hk;have h8:Jxg k (x.take m) []≠0:=λe=>hnk (by rw [<-(Jtr []).zero _ _ e];exact hk);simp only;omega
  ·rcases List.mem_append.1 hb with hb|hb
   ·have hb':b.1∈bs.map (·.1):=List.mem_map_of_mem hb
    rw [eo _ (λe=>hnk (by rw [<-e];exact hb'))];exact h.con b hb
   ·rw [List.mem_singleton.1 hb];refine ⟨hput _ (by rw [he];cases d<;>rfl),?_⟩;simp only;rw [ex];simp
  ·by_cases e:k=x.take m
   ·rw [e];simp
   ·rw [eo k e]at hk;rw [List.map_append,List.mem_append];exact .inl (h.all k hk)
theorem GInv.nil(d:Bool)(wt:Row->Nat)(m:Nat): GInv d wt m [] []:=⟨List.Pairwise.nil,λb hb=>(by cases hb),λk hk=>absurd rfl hk⟩
def entK(bs:List (Row×Tr))(k:Row): List (V×Nat):=match bs.find? λb=>decide (b.1=k) with
 | some b=>b.2.toL
 | none=>[]
theorem GInv.entK{d:Bool}{wt:Row->Nat}{m:Nat}{rs:List Row}{bs:List (Row×Tr)}(h:GInv d wt m rs bs)(k:Row): entK bs k=Qzp d (Jbs wt m rs k):=by
 unfold Pl.entK;cases hf:bs.find? λb=>decide (b.1=k) with
 | some b=>
  have h1:=List.mem_of_find?_eq_some hf;have h2:=List.find?_some hf;simp only [decide_eq_true_eq]at h2;simp only;rw [<-h2];exact (h.con b h1).1
 | none=>
  have h1:=List.find?_eq_none.1 hf;have:Jbs wt m rs k=[]:=Classical.byContradiction λh'=>by
   obtain ⟨b,hb,e⟩:=List.mem_map.1 (h.all k h');exact h1 b hb (by simpa using e)
  rw [this];cases d<;>rfl
theorem Qsj{wt:Row->Nat}{m:Nat}{rs:List Row}(hs:Lt [] rs)(hl:∀ y∈rs,y.length=m+1)(k:Row): (Jbs wt m rs k).Pairwise λp q=>cmpV p.1 q.1<0:=by
 unfold Jbs;rw [List.pairwise_map];refine List.Pairwise.imp_of_mem (R:=λx y:Row=>Jxg x y []<0) (fun {x y} hx hy h=>?_) (hs.sublist List.filter_sublist);obtain ⟨x1,x2⟩:=List.mem_filter.1 hx;obtain ⟨y1,y2⟩:=List.mem_filter.1 hy;simp only [Bool.and_eq_true,decide_eq_true_eq]at x2 y2;exact Jnp m h (by rw [x2.1,y2.1]) (hl x x1) (hl y y1)
theorem Qsm{d:Bool}{l:List (V×Nat)}(h:l.Pairwise λp q=>cmpV p.1 q.1<0): Xwd d (Qzp d l):=by
 cases d with
 | false=>exact h.imp λh'=>by simp only [neg];rw [if_neg (by simp)];exact h'
 | true=>
  simp only [Qzp,if_true,Xwd];rw [List.pairwise_reverse];refine h.imp fun {p q} h'=>?_
  have:=cmp_V.anti p.1 q.1;simp only [neg];rw [if_pos trivial];omega
theorem Qbd{d:Bool}{l:List (V×Nat)}{p:V×Nat}: p∈Qzp d l↔p∈l:=by cases d<;>simp [Qzp]
theorem Jhs(d:Bool)(l:List (V×Nat)): tot (Qzp d l)=tot l:=by
 cases d with
 | false=>rfl
 | true=>
  simp only [Qzp,if_true];induction l with
  | nil=>rfl
  | cons p l ih=>rw [List.reverse_cons,Jlk,ih,tot,tot,tot];omega
end Pl
open Go.RowKit Pl Go.Wk
attribute [local irreducible] WC WL QX WD WDB WP WN
structure Pth(c:JC)(v:Nat)(z:Row)(p e:Nat->Nat): Prop where
 path:∀ i,i<c.m->Jvm (c.F.rs i) (lv (c.vars i) v) (p i)=(pmR (c.vars i) z).take (lv (c.vars i) v)
 rng:∀ i,i<c.m->0<lv (c.vars i) v->p i<e i/\e i<=(pfx (c.F.rs i) (lv (c.vars i) v)).length
def Qph(c:JC)(Y:List Row->World->Prop)(v:Nat)(z:Row)(p e:Nat->Nat)(f h:Nat->Nat->Nat)(l:List Row)(w:World)(u:Value)(w':World): Prop :=
 u=.bool true/\GrN c.N w w'/\∃ z' f' h' l',Cfg c Y w' z' (λi=>lv (c.vars i) v) p e f' h' l'/\z'.take v=z.take v/\(∀ i,i<c.m->∀ k,k<lv (c.vars i) v->f' i k=f i k/\h' i k=h i k)/\Lt [] l'/\∀ x,x∈l'↔x∈l∨(c.Ans x/\x.take v=z.take v)
theorem Cfg.rowV{c:JC}{Y:List Row->World->Prop}{w:World}{z:Row}{L p e:Nat->Nat}{f h:Nat->Nat->Nat}{l:List Row}(H:Cfg c Y w z L p e f h l)(hok:JOk c): RowV w c.rowv z:=by
 have h1:=H.row;have h2:=hok.n32;refine ⟨c.Ra,c.n,by rw [H.zl];rfl,by rw [H.zl];exact Nat.le_refl _,by rw [H.zl];omega,?_⟩;rw [Qjd,H.zl]at h1;rw [RdR,H.zl];exact Rd.own h1
theorem Pth.ans{c:JC}{z:Row}{p e:Nat->Nat}(h:Pth c c.n z p e)(hok:JOk c)(hz:z.length=c.n): c.Ans z:=by
 refine ⟨hz,λi hi=>?_⟩;have h1:=h.path i hi;have h2:=Xjp (hok.lt i hi);rw [h2,List.take_of_length_le (by rw [Jqx];exact Nat.le_refl _)]at h1;rw [<-h1];have h3:=hok.d i hi;by_cases h0:(c.vars i).length=0
 ·rw [Jvm,if_pos h0];obtain ⟨r,hr⟩:=List.exists_mem_of_ne_nil _ (hok.ne i hi);have:=hok.len i hi r hr;rw [h3,h0]at this;rw [List.eq_nil_of_length_eq_zero this]at hr;exact hr
 ·rw [Jvm,if_neg h0];have h4:=h.rng i hi (by omega);rw [h2]at h4;have h5:=Qrl (hok.srt i hi) (hok.len i hi);rw [h3]at h5;rw [h5]at h4 ⊢;exact getD_mem' [] _ (by omega)
theorem Jpg{x z:Row}{n:Nat}(h1:x.length=n)(h2:z.length=n)(h:x.take n=z.take n): x=z:=by
 rwa [List.take_of_length_le (by omega),List.take_of_length_le (by omega)]at h
theorem Qwf{c:JC}{Y:List Row->World->Prop}{NY:Nat->Prop}(hok:JOk c)(hY:YC c Y NY)(hcap:∀ l:List Row,Lt [] l->(∀ x∈l,c.Ans x)->l.length<=65536){z:Row}{p e:Nat->Nat}{f h:Nat->Nat->Nat}{l:List Row}{w:World}(H:Cfg c Y w z (λi=>lv (c.vars i) c.n) p e f h l)(hP:Pth c c.n z p e)(hl:Lt [] l)(hla:∀ x∈l,c.Ans x)(hls:∀ x∈l,∀ z',c.Ans z'->z'.take c.n=z.take c.n->Jxg x z' []<0):
  Ret Tryz.prog 194 [.pointer (some ⟨c.J,0,none⟩),.int .i64 (c.n:Int)] w (Qph c Y c.n z p e f h l w):=by
 have hans:=hP.ans hok H.zl;obtain ⟨st,hJ⟩:=H.jb;have hn32:=hok.n32;obtain ⟨fid,first,cap,hyv,hcall⟩:=hY.call;have hrv:c.rowv=.slice c.Ra c.n c.n:=rfl;rw [hrv,hyv]at hJ;refine Jjb Tryz.func194 Tryz.ntmps194 rfl (by kernel_rfl) rfl ?_;refine ρ ?_;refine ld (hJ.at (i:=0) rfl) ?_;refine ρ ?_;refine ct ?_ ?_
 ·exact Xdc rfl
 refine ρ ?_;refine ld (hJ.at (i:=2) rfl) ?_;refine ρ ?_;refine sto (p:=⟨c.J,2,none⟩) (hJ.cell 2) (hJ.frozen _) ?_;have hJ2:=hJ.set 2 (.int .i64 (IntKind.i64.wrap (st+1)));have hg2:GrN (λk=>k=c.J) w (w.setCell ⟨c.J,2,none⟩ (.int .i64 (IntKind.i64.wrap (st+1)))):=GrN.set _ rfl;have hgI:GrN c.NI w (w.setCell ⟨c.J,2,none⟩ (.int .i64 (IntKind.i64.wrap (st+1)))):=GrN.set _ (.inl rfl);refine ρ ?_;generalize w.setCell ⟨c.J,2,none⟩ (.int .i64 (IntKind.i64.wrap (st+1)))=w2 at *
 have H2:Cfg c Y w2 z (λi=>lv (c.vars i) c.n) p e f h l:=by
  refine ⟨H.env.gr (hgI.mono λk _ hk=>hok.sub k hk),λi hi=>?_,Jjr H.row hg2 (λg eg=>H.rowJ eg),H.zl,⟨_,by rw [hrv,hyv];exact hJ2⟩,hY.keep _ _ _ H.y hgI⟩;obtain ⟨st,h1⟩:=H.its i hi;exact ⟨st,Jqb h1 hg2 (hok.gj i hi)⟩
 refine drN (λ_=>False) 10 [(0,0),(0,1),(0,2),(0,3),(0,4),(0,5),(0,6),(0,7),(2,8),(2,9)] (by kernel_rfl) ?_;have hxd:Ext w2 w2.drew:=(Ext.refl w2).drew;have hJ3:=hJ2.ext hxd;have H3:=H2.ext hY hxd;refine ρn ?_;refine nld (Jjg (hJ3.at (i:=3) rfl) (λe=>e)) ?_;refine ρn ?_;refine nld (Jjg (hJ3.at (i:=0) rfl) (λe=>e)) ?_;refine ρn ?_;refine Jkj ?_;have hlt:Lt [] (l++[z]):=by
  refine List.pairwise_append.2 ⟨hl,List.pairwise_singleton _ _,λx hx y hy=>?_⟩;rw [List.mem_singleton.1 hy];exact hls x hx z hans rfl
 have hlen:l.length<65536:=by
  have:=hcap (l++[z]) hlt (λx hx=>by
   rcases List.mem_append.1 hx with h'|h'
   ·exact hla x h'
   ·rw [List.mem_singleton.1 h'];exact hans)
  rw [List.length_append]at this;simp at this;omega
 refine clv (hcall l _ c.rowv z H3.y (H3.rowV hok) hlen) ?_;rintro u w4 ⟨rfl,hy4,hg4⟩;refine ρ ?_;refine Jch ?_;refine Jkj ?_;refine ρ ?_;have hgN:GrN c.N w w4:=((hgI.mono λk _ hk=>hok.sub k hk).trans (GrN.ext hxd)).trans (hg4.mono λk _ hk=>hY.sub k hk);refine Jjq ⟨rfl,hgN,z,f,h,l++[z],⟨H.env.gr hgN,λi hi=>?_,Jjr H3.row hg4 (λg eg hn=>hY.off g hn (.inr (.inr eg))),H.zl,?_,hy4⟩,rfl,λi hi k hk=>⟨rfl,rfl⟩,hlt,λx=>?_⟩
 ·obtain ⟨st,h1⟩:=H3.its i hi;exact ⟨st,Jqb h1 hg4 (λhn=>hY.off _ hn (.inr (.inl ⟨i,hi,rfl⟩)))⟩
 ·obtain ⟨st,h1⟩:=H3.jb;exact ⟨st,Jqb h1 hg4 (λhn=>hY.off _ hn (.inl rfl))⟩
 ·rw [List.mem_append,List.mem_singleton];constructor
  ·rintro (h'|rfl)
   ·exact .inl h'
   ·exact .inr ⟨hans,rfl⟩
  ·rintro (h'|⟨h1,h2⟩)
   ·exact .inl h'
   ·exact .inr (Jpg h1.1 H.zl h2)
open Go.RowKit Pl Go.Wk
structure LS where
 L: Nat->Nat
 p:Nat->Nat
 e:Nat->Nat
 f:Nat->Nat->Nat
 h:Nat->Nat->Nat
def LS.upd(S:LS)(i L p e:Nat)(f h:Nat->Nat): LS:=⟨Wk.upd S.L i L,Wk.upd S.p i p,Wk.upd S.e i e,Wk.upd S.f i f,Wk.upd S.h i h⟩
theorem Cfg.congr{c:JC}{Y:List Row->World->Prop}{w:World}{z:Row}{L p e L' p' e':Nat->Nat}{f h f' h':Nat->Nat->Nat}{l:List Row}(H:Cfg c Y w z L p e f h l)(h1:∀ i,i<c.m->L' i=L i/\p' i=p i/\e' i=e i/\f' i=f i/\h' i=h i): Cfg c Y w z L' p' e' f' h' l :=
 ⟨H.env,λi hi=>by obtain ⟨e1,e2,e3,e4,e5⟩:=h1 i hi;rw [e1,e2,e3,e4,e5];exact H.its i hi,H.row,H.zl,H.jb,H.y⟩
def JC.vl(c:JC)(v i a:Nat): V:=(lvl (c.F.rs i) (lv (c.vars i) v)).getD a V0
structure Sib(c:JC)(v:Nat)(z:Row)(lo hi:Nat->Nat): Prop where
 lt:∀ i∈c.I v,lo i<hi i/\hi i<=(pfx (c.F.rs i) (lv (c.vars i) v+1)).length
 ch:∀ i∈c.I v,∀ a,a<(pfx (c.F.rs i) (lv (c.vars i) v+1)).length->(((pfx (c.F.rs i) (lv (c.vars i) v+1)).getD a []).take (lv (c.vars i) v)=(pmR (c.vars i) z).take (lv (c.vars i) v)↔lo i<=a/\a<hi i)
section
variable {c:JC} {v:Nat} {z:Row} {lo hi:Nat->Nat}
theorem JOk.lvd(hok:JOk c){i:Nat}(hi:i∈c.I v): lv (c.vars i) v+1<=c.F.d i:=by
 obtain ⟨h1,h2⟩:=JC.mem_I.1 hi;rw [hok.d i h1];exact (Jwq (hok.asc i h1) h2).2.1
theorem Sib.node(hok:JOk c)(hS:Sib c v z lo hi){i a:Nat}(him:i∈c.I v)(h1:lo i<=a)(h2:a<hi i): (pfx (c.F.rs i) (lv (c.vars i) v+1)).getD a []=(pmR (c.vars i) z).take (lv (c.vars i) v)++[c.vl v i a]:=by
 obtain ⟨hi1,hi2⟩:=JC.mem_I.1 him;have hlt:=hS.lt i him;have ha:a<(pfx (c.F.rs i) (lv (c.vars i) v+1)).length:=by omega
 have h3:=(hS.ch i him a ha).2 ⟨h1,h2⟩;have h4:=Xxz (Jcj (hok.srt i hi1)) (hok.len i hi1) (hok.lvd him) (getD_mem' [] _ ha);rw [Qgx h4 h3,JC.vl,Xzn ha]
theorem Sib.srt(hok:JOk c)(hS:Sib c v z lo hi){i a b:Nat}(him:i∈c.I v)(h1:lo i<=a)(h2:a<b)(h3:b<hi i): cmpV (c.vl v i a) (c.vl v i b)<0:=by
 obtain ⟨hi1,hi2⟩:=JC.mem_I.1 him;have hlt:=hS.lt i him;have h4:=(Jmg (Jcj (hok.srt i hi1)) (lv (c.vars i) v+1)).1.at h2 (by omega);rw [hS.node hok him h1 (by omega),hS.node hok him (by omega) h3]at h4;have key:∀ (y:Row) (a b:V),Jxg (y++[a]) (y++[b]) []<0->cmpV a b<0:=λy a b=>by
  induction y with
  | nil=>
   intro h;simp only [List.nil_append,Jxg]at h;by_cases e:cmpV a b=0
   ·rw [if_pos e]at h;omega
   ·rw [if_neg e]at h;exact h
  | cons x y ih=>
   intro h;simp only [List.cons_append,Jxg,Jqk,if_true,List.drop_nil]at h;exact ih h
 exact key _ _ _ h4
theorem Sib.ans(hok:JOk c)(hS:Sib c v z lo hi){y:Row}(hy:c.Ans y)(ht:y.take v=z.take v){i:Nat}(him:i∈c.I v): ∃ a,lo i<=a/\a<hi i/\c.vl v i a=y.getD v V0:=by
 obtain ⟨hi1,hi2⟩:=JC.mem_I.1 him;have hm:=(Jft (Jcj (hok.srt i hi1)) (l:=lv (c.vars i) v+1)).2 ⟨_,hy.2 i hi1,rfl⟩;obtain ⟨a,ha,ea⟩:=List.getElem_of_mem hm;rw [Qhz (hok.asc i hi1) hi2,Qhx (hok.asc i hi1) ht]at ea;have ea':(pfx (c.F.rs i) (lv (c.vars i) v+1)).getD a []=(pmR (c.vars i) z).take (lv (c.vars i) v)++[y.getD v V0]:=by rw [Jjh [] _ ha];exact ea
 have hl:((pmR (c.vars i) z).take (lv (c.vars i) v)).length=lv (c.vars i) v:=by rw [List.length_take,Jqx];have:=Xbg (c.vars i) v;omega
 have h1:=(hS.ch i him a ha).1 (by rw [ea',List.take_append_of_le_length (by omega),List.take_of_length_le (by omega)]);refine ⟨a,h1.1,h1.2,?_⟩;have:=hS.node hok him h1.1 h1.2;rw [ea']at this;have h2:=List.append_cancel_left this;injection h2 with h2
 exact h2.symm
theorem Pth.step(hok:JOk c){p e p1:Nat->Nat}(hP:Pth c v z p e)(hS:Sib c v z lo hi)(hv:v<z.length){x:V}(h1:∀ i∈c.I v,lo i<=p1 i/\p1 i<hi i/\c.vl v i (p1 i)=x){z2:Row}(hz2:z2.take v=z.take v)(hz3:z2.getD v V0=x){e1:Nat->Nat}(h2:∀ i,i<c.m->i ∉ c.I v->p1 i=p i/\e1 i=e i)(h3:∀ i∈c.I v,e1 i=hi i): Pth c (v+1) z2 p1 e1:=by
 refine ⟨λi hi'=>?_,λi hi' h0=>?_⟩
 ·by_cases him:i∈c.I v
  ·obtain ⟨hi1,hi2⟩:=JC.mem_I.1 him;have h4:=h1 i him;rw [(Jwq (hok.asc i hi1) hi2).1,Qhz (hok.asc i hi1) hi2,Qhx (hok.asc i hi1) hz2,hz3,Jvm,if_neg (by omega),hS.node hok him h4.1 h4.2.1,h4.2.2]
  ·have hnv:v ∉ c.vars i:=λh'=>him (JC.mem_I.2 ⟨hi',h'⟩);rw [Jmp hnv,(h2 i hi' him).1,hP.path i hi',Qhx (hok.asc i hi') hz2]
 ·by_cases him:i∈c.I v
  ·obtain ⟨hi1,hi2⟩:=JC.mem_I.1 him;have h4:=h1 i him;rw [(Jwq (hok.asc i hi1) hi2).1,h3 i him];exact ⟨h4.2.1,(hS.lt i him).2⟩
  ·have hnv:v ∉ c.vars i:=λh'=>him (JC.mem_I.2 ⟨hi',h'⟩);rw [Jmp hnv]at h0 ⊢;rw [(h2 i hi' him).1,(h2 i hi' him).2];exact hP.rng i hi' h0
end
end Go.Proofs.YtefpailelagbkaaGreatDoor
