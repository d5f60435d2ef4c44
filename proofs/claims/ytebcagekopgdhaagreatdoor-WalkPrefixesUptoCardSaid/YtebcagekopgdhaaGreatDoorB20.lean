/- Part 20. -/
import Derived.Test.YtebcagekopgdhaaGreatDoorB18
import Derived.Test.YtebcagekopgdhaaGreatDoorB19
set_option linter.unusedVariables false
set_option maxRecDepth 100000
set_option maxHeartbeats 40000000
namespace Go.Proofs.YtebcagekopgdhaaGreatDoor
namespace Pl
inductive Tr where
 | nil
 | node (l:Tr) (v:V) (x:Nat) (r:Tr)
namespace Tr
def ht: Tr->Nat
 | .nil=>0
 | .node l _ _ r=>max l.ht r.ht+1
def sz: Tr->Nat
 | .nil=>0
 | .node l _ _ r=>l.sz+1+r.sz
def sum: Tr->Nat
 | .nil=>0
 | .node l _ x r=>l.sum+x+r.sum
def toL: Tr->List (V×Nat)
 | .nil=>[]
 | .node l v x r=>l.toL++(v,x)::r.toL
theorem sum_eq: ∀ t:Tr,t.sum=tot t.toL
 | .nil=>rfl
 | .node l v x r=>by rw [sum,toL,Jxq,tot,sum_eq l,sum_eq r];simp only;omega
theorem sz_eq: ∀ t:Tr,t.sz=t.toL.length
 | .nil=>rfl
 | .node l v x r=>by rw [sz,toL,List.length_append,List.length_cons,sz_eq l,sz_eq r];omega
theorem ht_le: ∀ t:Tr,t.ht<=t.sz
 | .nil=>Nat.le_refl _
 | .node l v x r=>by have:=ht_le l;have:=ht_le r;simp only [ht,sz];omega
def left: Tr->Tr
 | .nil=>.nil
 | .node l _ _ _=>l
def right: Tr->Tr
 | .nil=>.nil
 | .node _ _ _ r=>r
def bal(l:Tr)(v:V)(x:Nat)(r:Tr): Tr :=
 if r.ht+1<l.ht then
  match l with
  | .nil=>.node .nil v x r
  | .node ll lv lx lr=>
   if lr.ht<=ll.ht then .node ll lv lx (.node lr v x r)
   else match lr with
    | .nil=>.node (.node ll lv lx .nil) v x r
    | .node ml mv mx mr=>.node (.node ll lv lx ml) mv mx (.node mr v x r)
 else if l.ht+1<r.ht then
  match r with
  | .nil=>.node l v x .nil
  | .node rl rv rx rr=>
   if rl.ht<=rr.ht then .node (.node l v x rl) rv rx rr
   else match rl with
    | .nil=>.node l v x (.node .nil rv rx rr)
    | .node ml mv mx mr=>.node (.node l v x ml) mv mx (.node mr rv rx rr)
 else .node l v x r
theorem toL_bal(l:Tr)(v:V)(x:Nat)(r:Tr): (bal l v x r).toL=l.toL++(v,x)::r.toL:=by
 unfold bal;split
 .cases l with
  | nil=>rfl
  | node ll lv lx lr=>
   simp only;split
   .simp [toL]
   .cases lr<;>simp [toL]
 .split
  .cases r with
   | nil=>rfl
   | node rl rv rx rr=>
    simp only;split
    .simp [toL]
    .cases rl<;>simp [toL]
  .rfl
def put(d:Bool)(v:V)(x:Nat): Tr->Tr
 | .nil=>.node .nil v x .nil
 | .node l a y r=>if neg d (cmpV v a)<0 then bal (put d v x l) a y r else if 0<neg d (cmpV v a) then bal l a y (put d v x r) else .node l v x r
theorem put_last{d:Bool}{v:V}{x:Nat}: ∀ {t:Tr},(∀ p∈t.toL,0<neg d (cmpV v p.1))->(put d v x t).toL=t.toL++[(v,x)]
 | .nil,_=>rfl
 | .node l a y r,h=>by
  have h1:=h (a,y) (by simp [toL]);have h2:=put_last (d:=d) (v:=v) (x:=x) (t:=r) (λp hp=>h p (by simp [toL,hp]));simp only at h1;rw [put,if_neg om,if_pos h1,toL_bal,h2];simp [toL]
theorem put_first{d:Bool}{v:V}{x:Nat}: ∀ {t:Tr},(∀ p∈t.toL,neg d (cmpV v p.1)<0)->(put d v x t).toL=(v,x)::t.toL
 | .nil,_=>rfl
 | .node l a y r,h=>by
  have h1:=h (a,y) (by simp [toL]);have h2:=put_first (d:=d) (v:=v) (x:=x) (t:=l) (λp hp=>h p (by simp [toL,hp]));simp only at h1;rw [put,if_pos h1,toL_bal,h2];simp [toL]
theorem Qqs(l:Tr)(v:V)(x:Nat)(r:Tr): (bal l v x r).sz=l.sz+1+r.sz:=by rw [sz_eq,toL_bal,List.length_append,List.length_cons,sz_eq l,sz_eq r];omega
theorem put_sz(d:Bool)(v:V)(x:Nat): ∀ t:Tr,(put d v x t).sz<=t.sz+1
 | .nil=>Nat.le_refl _
 | .node l a y r=>by
  have h1:=put_sz d v x l;have h2:=put_sz d v x r;unfold put;split
  .rw [Qqs,sz];omega
  .split
   .rw [Qqs,sz];omega
   .rw [sz,sz];omega
def befT(d:Bool)(v:V): Tr->Nat
 | .nil=>0
 | .node l a y r=>if neg d (cmpV v a)<0 then befT d v l else if neg d (cmpV v a)=0 then l.sum else l.sum+y+befT d v r
def hasT(d:Bool)(v:V): Tr->Bool
 | .nil=>false
 | .node l a y r=>if neg d (cmpV v a)<0 then hasT d v l else if neg d (cmpV v a)=0 then true else hasT d v r
theorem Qpg(d:Bool)(v:V)(l m:List (V×Nat)): bef d v (l++m)=bef d v l+bef d v m:=by
 induction l with
 | nil=>simp [bef]
 | cons p l ih=>rw [List.cons_append,bef,bef,ih,Nat.add_assoc]
theorem Jft{d:Bool}{v:V}: ∀ {l:List (V×Nat)},(∀ p∈l,neg d (cmpV p.1 v)<0)->bef d v l=tot l
 | [],_=>rfl
 | p::l,h=>by rw [bef,tot,if_pos (h p (mC ..)),Jft λq hq=>h q (List.mem_cons_of_mem _ hq)]
theorem Jfs{d:Bool}{v:V}: ∀ {l:List (V×Nat)},(∀ p∈l,¬ neg d (cmpV p.1 v)<0)->bef d v l=0
 | [],_=>rfl
 | p::l,h=>by rw [bef,if_neg (h p (mC ..)),Jfs λq hq=>h q (List.mem_cons_of_mem _ hq)]
theorem befT_eq{d:Bool}{v:V}: ∀ {t:Tr},Iu d t.toL->befT d v t=bef d v t.toL/\(hasT d v t=true↔v∈t.toL.map (·.1))
 | .nil,_=>⟨rfl,by simp [hasT,toL]⟩
 | .node l a y r,h=>by
  have N:=Jkb d;obtain ⟨h1,h2,h3⟩:=List.pairwise_append.1 h;obtain ⟨h4,h5⟩:=List.pairwise_cons.1 h2;have il:=befT_eq (v:=v) h1;have ir:=befT_eq (v:=v) h5;have hla:∀ p∈l.toL,neg d (cmpV p.1 a)<0:=λp hp=>h3 p hp (a,y) (mC ..);have hva:=Jww d v a;rw [toL,befT,hasT,Qpg,bef];by_cases c1:neg d (cmpV v a)<0
  .have hr:∀ p∈r.toL,¬ neg d (cmpV p.1 v)<0:=λp hp h'=>by
    have:=N.trans p.1 v a om om;have:=h4 p hp;have:=Jww d a p.1;simp only at *;omega
   rw [if_pos c1,if_pos c1,il.1,Jfs hr,if_neg (by simp only;omega)];refine ⟨om,?_⟩;rw [il.2,List.map_append,List.mem_append,List.map_cons,List.mem_cons];constructor
   .exact .inl
   .rintro (h'|rfl|h')
    .exact h'
    .rw [Zv]at c1;unfold neg at c1;split at c1<;>omega
    .obtain ⟨p,hp,rfl⟩:=List.mem_map.1 h';have:=h4 p hp;have:=Jww d a p.1;simp only at *;omega
  .rw [if_neg c1,if_neg c1];by_cases c0:neg d (cmpV v a)=0
   .have e:v=a:=N.zero v a c0;subst e;have hr:∀ p∈r.toL,¬ neg d (cmpV p.1 v)<0:=λp hp h'=>by
     have:=h4 p hp;have:=Jww d v p.1;simp only at *;omega
    rw [if_pos c0,if_pos c0,Jft hla,Jfs hr,if_neg (by simp only;omega),sum_eq];exact ⟨om,by simp⟩
   .rw [if_neg c0,if_neg c0];have hl:∀ p∈l.toL,neg d (cmpV p.1 v)<0:=λp hp=>by
     have h1:=hla p hp;have h2:=N.trans p.1 a v om om;have h3:neg d (cmpV p.1 v)≠0:=λe=>by
      have:=N.zero p.1 v e;rw [this]at h1;omega
     simp only at *;omega
    rw [Jft hl,if_pos (by simp only;omega),ir.1,sum_eq];refine ⟨by simp only;omega,?_⟩;rw [ir.2,List.map_append,List.mem_append,List.map_cons,List.mem_cons];constructor
    .exact λh'=>.inr (.inr h')
    .rintro (h'|rfl|h')
     .obtain ⟨p,hp,rfl⟩:=List.mem_map.1 h';have:=hl p hp;rw [Zv]at this;unfold neg at this;split at this<;>omega
     .exact absurd (by rw [Zv];unfold neg;split<;>rfl) c0
     .exact h'
def findT(k:Nat): Tr->V×Nat
 | .nil=>(V0,0)
 | .node l a y r=>if k<l.sum then findT k l else if l.sum+y<=k then ((findT (k-(l.sum+y)) r).1,l.sum+y+(findT (k-(l.sum+y)) r).2) else (a,l.sum)
theorem findT_eq: ∀ {t:Tr} {k:Nat},k<t.sum->∃ l1 l2 y,t.toL=l1++((findT k t).1,y)::l2/\tot l1=(findT k t).2/\(findT k t).2<=k/\k<(findT k t).2+y
 | .nil,k,h=>by simp [sum]at h
 | .node l a y r,k,h=>by
  rw [sum]at h;rw [findT,toL];split
  .rename_i h1;obtain ⟨l1,l2,z,e1,e2,e3,e4⟩:=findT_eq h1;exact ⟨l1,l2++(a,y)::r.toL,z,by rw [e1];simp,e2,e3,e4⟩
  .split
   .rename_i h1 h2;obtain ⟨l1,l2,z,e1,e2,e3,e4⟩:=findT_eq (t:=r) (k:=k-(l.sum+y)) om;refine ⟨l.toL++(a,y)::l1,l2,z,?_,?_,?_,?_⟩
    .simp only;rw [List.append_assoc,List.cons_append,<-e1]
    .rw [Jxq,tot,e2,sum_eq];simp only;omega
    .simp only;omega
    .simp only;omega
   .exact ⟨l.toL,r.toL,y,rfl,(sum_eq l).symm,by simp only;omega,by simp only;omega⟩
end Tr
end Pl
namespace Pl
def Qp(wt:Row->Nat)(m:Nat)(rs:List Row)(k:Row): List (V×Nat):=(rs.filter λx=>decide (x.take m=k) && decide (0<wt x)).map λx=>(x.getD m V0,wt x)
def stepG(d:Bool)(wt:Row->Nat)(m:Nat)(bs:List (Row×Tr))(x:Row): List (Row×Tr) :=
 if wt x=0 then bs
 else if (bs.getLast?.map (·.1))=some (x.take m) then bs.dropLast++[(x.take m,Tr.put d (x.getD m V0) (wt x) ((bs.getLast?.map (·.2)).getD .nil))]
 else bs++[(x.take m,Tr.put d (x.getD m V0) (wt x) .nil)]
def Vq(d:Bool)(l:List (V×Nat)): List (V×Nat):=if d then l.reverse else l
structure GInv(d:Bool)(wt:Row->Nat)(m:Nat)(rs:List Row)(bs:List (Row×Tr)): Prop where
 lt:Lt [] (bs.map (·.1))
 con:∀ b∈bs,b.2.toL=Vq d (Qp wt m rs b.1)/\Qp wt m rs b.1≠[]
 all:∀ k,Qp wt m rs k≠[]->k∈bs.map (·.1)
theorem Jfb(wt:Row->Nat)(m:Nat)(rs:List Row)(x k:Row): Qp wt m (rs++[x]) k=Qp wt m rs k++if x.take m=k/\0<wt x then [(x.getD m V0,wt x)] else []:=by
 unfold Qp;rw [List.filter_append,List.map_append];congr 1
 by_cases h:x.take m=k/\0<wt x
 .rw [if_pos h,List.filter_cons_of_pos (by simp [h]),List.filter_nil];rfl
 .rw [if_neg h,List.filter_cons_of_neg (by simpa using h),List.filter_nil];rfl
theorem entL_mem{wt:Row->Nat}{m:Nat}{rs:List Row}{k:Row}{p:V×Nat}: p∈Qp wt m rs k↔∃ x∈rs,x.take m=k/\x.getD m V0=p.1/\wt x=p.2/\0<p.2:=by
 unfold Qp;rw [List.mem_map];constructor
 .rintro ⟨x,u,rfl⟩;obtain ⟨C,o⟩:=List.mem_filter.1 u;simp only [Bool.and_eq_true,decide_eq_true_eq]at o;exact ⟨x,C,o.1,rfl,rfl,o.2⟩
 .rintro ⟨x,u,C,o,G,J⟩;refine ⟨x,List.mem_filter.2 ⟨u,by simp [C,G,J]⟩,?_⟩;rw [o,G]
theorem entL_ne{wt:Row->Nat}{m:Nat}{rs:List Row}{k:Row}: Qp wt m rs k≠[]↔∃ x∈rs,x.take m=k/\0<wt x:=by
 constructor
 .intro h;obtain ⟨p,G⟩:=List.exists_mem_of_ne_nil _ h;obtain ⟨x,u,o,C,O,J⟩:=entL_mem.1 G;exact ⟨x,u,o,om⟩
 .rintro ⟨x,u,o,C⟩ e;have:=(entL_mem (p:=(x.getD m V0,wt x))).2 ⟨x,u,o,rfl,rfl,C⟩;rw [e]at this;cases this
theorem Qjf: ∀ (m:Nat) {x y:Row},Jw x y []<0->Jw (x.take m) (y.take m) []<=0
 | 0,x,y,_=>by simp [Jw]
 | m+1,[],[],h=>by simp [Jw]
 | m+1,[],b::y,h=>by simp [Jw]
 | m+1,a::x,[],h=>by simp [Jw]at h
 | m+1,a::x,b::y,h=>by
  simp only [Jw,List.take_succ_cons,List.drop_nil]at h ⊢;by_cases e:cmpV a b=0
  .rw [if_pos e]at h ⊢;exact Qjf m h
  .rw [if_neg e]at h ⊢;omega
theorem Jfl: ∀ (m:Nat) {x y:Row},Jw x y []<0->x.take m=y.take m->x.length=m+1->y.length=m+1->cmpV (x.getD m V0) (y.getD m V0)<0
 | 0,[a],[b],h,_,_,_=>by
  simp only [Jw]at h;by_cases e:cmpV a b=0
  .rw [if_pos e]at h;omega
  .rw [if_neg e]at h;exact h
 | m+1,a::x,b::y,h,ht,h1,h2=>by
  simp only [List.take_succ_cons,List.cons.injEq]at ht;simp only [Jw,List.drop_nil]at h;rw [if_pos (by rw [ht.1];exact Zv b)]at h;simp only [List.getD_cons_succ];exact Jfl m h ht.2 (by simpa using h1) (by simpa using h2)
theorem Jvk{α:Type}{l:List α}(h:l≠[]): ∃ i z,l=i++[z]/\l.getLast?=some z/\l.dropLast=i:=by
 refine ⟨l.dropLast,l.getLast h,(List.dropLast_concat_getLast h).symm,List.getLast?_eq_some_getLast h,rfl⟩
theorem GInv.step{d:Bool}{wt:Row->Nat}{m:Nat}{rs:List Row}{bs:List (Row×Tr)}(h:GInv d wt m rs bs){x:Row}(hs:Lt [] (rs++[x]))(hl:∀ y∈rs++[x],y.length=m+1): GInv d wt m (rs++[x]) (stepG d wt m bs x):=by
 have a6:=hl x (by simp);have a3:∀ y∈rs,Jw y x []<0:=λy hy=>(List.pairwise_append.1 hs).2.2 y hy x (by simp);by_cases h0:wt x=0
 .have e:∀ k,Qp wt m (rs++[x]) k=Qp wt m rs k:=λk=>by rw [Jfb,if_neg om,List.append_nil]
  rw [stepG,if_pos h0];exact ⟨h.lt,λb u=>by rw [e];exact h.con b u,λk o=>h.all k (by rw [<-e k];exact o)⟩
 have h1:0<wt x:=om
 have eo:∀ k,k≠x.take m->Qp wt m (rs++[x]) k=Qp wt m rs k:=λk o=>by rw [Jfb,if_neg (λU=>o U.1.symm),List.append_nil]
 have ex:Qp wt m (rs++[x]) (x.take m)=Qp wt m rs (x.take m)++[(x.getD m V0,wt x)]:=by rw [Jfb,if_pos ⟨rfl,h1⟩]
 have J:∀ k∈bs.map (·.1),Jw k (x.take m) []<=0:=λk o=>by
  obtain ⟨b,u,rfl⟩:=List.mem_map.1 o;obtain ⟨y,hy,e,_⟩:=entL_ne.1 (h.con b u).2;rw [<-e];exact Qjf m (a3 y hy)
 have O:∀ p∈Qp wt m rs (x.take m),cmpV p.1 (x.getD m V0)<0:=λp Z=>by
  obtain ⟨y,hy,C,e2,_⟩:=entL_mem.1 Z;rw [<-e2];exact Jfl m (a3 y hy) C (hl y (by simp [hy])) a6
 have G:∀ t:Tr,t.toL=Vq d (Qp wt m rs (x.take m))->(Tr.put d (x.getD m V0) (wt x) t).toL=Vq d (Qp wt m (rs++[x]) (x.take m)):=λt ht=>by
  rw [ex];cases d with
  | false=>
   rw [Tr.put_last,ht];· rfl
   intro p Z;rw [ht]at Z;have:=O p Z;have:=cmp_V.anti p.1 (x.getD m V0);simp only [neg];rw [if_neg (by simp)];omega
  | true=>
   rw [Tr.put_first,ht];· simp [Vq]
   intro p Z;rw [ht]at Z;have:=O p (by simpa [Vq] using Z);have:=cmp_V.anti p.1 (x.getD m V0);simp only [neg];rw [if_pos trivial];omega
 rw [stepG,if_neg h0];by_cases hl2:(bs.getLast?.map (·.1))=some (x.take m)
 .rw [if_pos hl2];have a2:bs≠[]:=by intro e;rw [e]at hl2;cases hl2
  obtain ⟨i,z,C,e2,e3⟩:=Jvk a2;rw [e2]at hl2 ⊢;have hz:z.1=x.take m:=by simpa using hl2
  rw [e3];have a5:=h.con z (by rw [C];simp);have a7:∀ b∈i,b.1≠x.take m:=λb u e=>by
   have:=h.lt;rw [C,List.map_append]at this;have:=(List.pairwise_append.1 this).2.2 b.1 (List.mem_map_of_mem u) z.1 (by simp);rw [hz,e,Vo]at this;omega
  refine ⟨?_,λb u=>?_,λk o=>?_⟩
  .have:=h.lt;rw [C]at this;simpa [hz] using this
  .rcases List.mem_append.1 u with u|u
   .rw [eo _ (a7 b u)];exact h.con b (by rw [C];simp [u])
   .rw [List.mem_singleton.1 u];refine ⟨G _ (by rw [<-hz];simpa using a5.1),?_⟩;simp only;rw [ex];simp
  .by_cases e:k=x.take m
   .rw [e];simp
   .rw [eo k e]at o;have:=h.all k o;rw [C,List.map_append,List.mem_append]at this;rcases this with U|U
    .rw [List.map_append,List.mem_append];exact .inl U
    .rw [List.map_singleton,List.mem_singleton,hz]at U;exact absurd U e
 .rw [if_neg hl2];have a1:x.take m ∉ bs.map (·.1):=λo=>by
   have a2:bs≠[]:=by intro e;rw [e]at o;cases o
   obtain ⟨i,z,C,e2,e3⟩:=Jvk a2;rw [e2]at hl2;have hz:z.1≠x.take m:=λe=>hl2 (by simp [e]);rw [C,List.map_append,List.mem_append]at o;have h5:=h.lt;rw [C,List.map_append]at h5;rcases o with o|o
   .have h6:=(List.pairwise_append.1 h5).2.2 _ o z.1 (by simp);have h7:=J z.1 (by rw [C];simp);have:=Uo [] |>.anti (x.take m) z.1;omega
   .rw [List.map_singleton,List.mem_singleton]at o;exact hz o.symm
  have he:Qp wt m rs (x.take m)=[]:=Classical.byContradiction λU=>a1 (h.all _ U);refine ⟨?_,λb u=>?_,λk o=>?_⟩
  .rw [List.map_append];refine List.pairwise_append.2 ⟨h.lt,by simp,λk o k' a4=>?_⟩;rw [List.map_singleton,List.mem_singleton]at a4;rw [a4];have h7:=J k o;have h8:Jw k (x.take m) []≠0:=λe=>a1 (by rw [<-(Uo []).zero _ _ e];exact o);simp only;omega
  .rcases List.mem_append.1 u with u|u
   .have a8:b.1∈bs.map (·.1):=List.mem_map_of_mem u
    rw [eo _ (λe=>a1 (by rw [<-e];exact a8))];exact h.con b u
   .rw [List.mem_singleton.1 u];refine ⟨G _ (by rw [he];cases d<;>rfl),?_⟩;simp only;rw [ex];simp
  .by_cases e:k=x.take m
   .rw [e];simp
   .rw [eo k e]at o;rw [List.map_append,List.mem_append];exact .inl (h.all k o)
theorem GInv.nil(d:Bool)(wt:Row->Nat)(m:Nat): GInv d wt m [] []:=⟨List.Pairwise.nil,λb u=>(by cases u),λk o=>absurd rfl o⟩
def entK(bs:List (Row×Tr))(k:Row): List (V×Nat):=match bs.find? λb=>decide (b.1=k) with
 | some b=>b.2.toL
 | none=>[]
theorem GInv.entK{d:Bool}{wt:Row->Nat}{m:Nat}{rs:List Row}{bs:List (Row×Tr)}(h:GInv d wt m rs bs)(k:Row): entK bs k=Vq d (Qp wt m rs k):=by
 unfold Pl.entK;cases hf:bs.find? λb=>decide (b.1=k) with
 | some b=>
  have o:=List.mem_of_find?_eq_some hf;have u:=List.find?_some hf;simp only [decide_eq_true_eq]at u;simp only;rw [<-u];exact (h.con b o).1
 | none=>
  have o:=List.find?_eq_none.1 hf;have:Qp wt m rs k=[]:=Classical.byContradiction λG=>by
   obtain ⟨b,C,e⟩:=List.mem_map.1 (h.all k G);exact o b C (by simpa using e)
  rw [this];cases d<;>rfl
theorem Qhs{wt:Row->Nat}{m:Nat}{rs:List Row}(hs:Lt [] rs)(hl:∀ y∈rs,y.length=m+1)(k:Row): (Qp wt m rs k).Pairwise λp q=>cmpV p.1 q.1<0:=by
 unfold Qp;rw [List.pairwise_map];refine List.Pairwise.imp_of_mem (R:=λx y:Row=>Jw x y []<0) (fun {x y} hx hy h=>?_) (hs.sublist List.filter_sublist);obtain ⟨G,u⟩:=List.mem_filter.1 hx;obtain ⟨C,o⟩:=List.mem_filter.1 hy;simp only [Bool.and_eq_true,decide_eq_true_eq]at u o;exact Jfl m h (by rw [u.1,o.1]) (hl x G) (hl y C)
theorem Qlg{d:Bool}{l:List (V×Nat)}(h:l.Pairwise λp q=>cmpV p.1 q.1<0): Iu d (Vq d l):=by
 cases d with
 | false=>exact h.imp λo=>by simp only [neg];rw [if_neg (by simp)];exact o
 | true=>
  simp only [Vq,if_true,Iu];rw [List.pairwise_reverse];refine h.imp fun {p q} o=>?_
  have:=cmp_V.anti p.1 q.1;simp only [neg];rw [if_pos trivial];omega
theorem Jtk{d:Bool}{l:List (V×Nat)}{p:V×Nat}: p∈Vq d l↔p∈l:=by cases d<;>simp [Vq]
theorem Jvq(d:Bool)(l:List (V×Nat)): tot (Vq d l)=tot l:=by
 cases d with
 | false=>rfl
 | true=>
  simp only [Vq,if_true];induction l with
  | nil=>rfl
  | cons p l ih=>rw [List.reverse_cons,Jxq,ih,tot,tot,tot];omega
end Pl
open Go.RowKit Pl Go.Wk
attribute [local irreducible] WC WL QX WD WDB WP WN
structure Pth(c:JC)(v:Nat)(z:Row)(p e:Nat->Nat): Prop where
 path:∀ i,i<c.m->Yx (c.F.rs i) (lv (c.vars i) v) (p i)=(pmR (c.vars i) z).take (lv (c.vars i) v)
 rng:∀ i,i<c.m->0<lv (c.vars i) v->p i<e i/\e i<=(pfx (c.F.rs i) (lv (c.vars i) v)).length
def Qzb(c:JC)(Y:List Row->World->Prop)(v:Nat)(z:Row)(p e:Nat->Nat)(f h:Nat->Nat->Nat)(l:List Row)(w:World)(u:Value)(w':World): Prop :=
 u=.bool true/\GrN c.N w w'/\∃ z' f' h' l',Cfg c Y w' z' (λi=>lv (c.vars i) v) p e f' h' l'/\z'.take v=z.take v/\(∀ i,i<c.m->∀ k,k<lv (c.vars i) v->f' i k=f i k/\h' i k=h i k)/\Lt [] l'/\∀ x,x∈l'↔x∈l∨(c.Ans x/\x.take v=z.take v)
theorem Cfg.rowV{c:JC}{Y:List Row->World->Prop}{w:World}{z:Row}{L p e:Nat->Nat}{f h:Nat->Nat->Nat}{l:List Row}(H:Cfg c Y w z L p e f h l)(hok:JOk c): RowV w c.rowv z:=by
 have o:=H.row;have u:=hok.n32;refine ⟨c.Ra,c.n,by rw [H.zl];rfl,by rw [H.zl];exact Nat.le_refl _,by rw [H.zl];omega,?_⟩;rw [Zm,H.zl]at o;rw [RdR,H.zl];exact Rd.own o
theorem Pth.ans{c:JC}{z:Row}{p e:Nat->Nat}(h:Pth c c.n z p e)(hok:JOk c)(hz:z.length=c.n): c.Ans z:=by
 refine ⟨hz,λi hi=>?_⟩;have O:=h.path i hi;have J:=Jrk (hok.lt i hi);rw [J,List.take_of_length_le (by rw [Qh];exact Nat.le_refl _)]at O;rw [<-O];have G:=hok.d i hi;by_cases h0:(c.vars i).length=0
 .rw [Yx,if_pos h0];obtain ⟨r,o⟩:=List.exists_mem_of_ne_nil _ (hok.ne i hi);have:=hok.len i hi r o;rw [G,h0]at this;rw [List.eq_nil_of_length_eq_zero this]at o;exact o
 .rw [Yx,if_neg h0];have C:=h.rng i hi om;rw [J]at C;have u:=Qbv (hok.srt i hi) (hok.len i hi);rw [G]at u;rw [u]at C ⊢;exact getD_mem' [] _ om
theorem Qwn{x z:Row}{n:Nat}(h1:x.length=n)(h2:z.length=n)(h:x.take n=z.take n): x=z:=by
 rwa [List.take_of_length_le om,List.take_of_length_le om]at h
theorem Qhp{c:JC}{Y:List Row->World->Prop}{NY:Nat->Prop}(hok:JOk c)(hY:YC c Y NY)(hcap:∀ l:List Row,Lt [] l->(∀ x∈l,c.Ans x)->l.length<=65536){z:Row}{p e:Nat->Nat}{f h:Nat->Nat->Nat}{l:List Row}{w:World}(H:Cfg c Y w z (λi=>lv (c.vars i) c.n) p e f h l)(hP:Pth c c.n z p e)(hl:Lt [] l)(hla:∀ x∈l,c.Ans x)(hls:∀ x∈l,∀ z',c.Ans z'->z'.take c.n=z.take c.n->Jw x z' []<0):
  Ret Tryz.prog 205 [.pointer (some ⟨c.J,0,none⟩),.int .i64 (c.n:Int)] w (Qzb c Y c.n z p e f h l w):=by
 have o:=hP.ans hok H.zl;obtain ⟨st,hJ⟩:=H.jb;have aa:=hok.n32;obtain ⟨ab,first,ac,a1,U⟩:=hY.call;have a2:c.rowv=.slice c.Ra c.n c.n:=rfl;rw [a2,a1]at hJ;refine Jz Tryz.func205 Tryz.ntmps205 rfl kr rfl ?_;refine ρ ?_;refine ld (hJ.at (i:=0) rfl) ?_;refine ρ ?_;refine ct ?_ ?_
 .exact Qqq rfl
 refine ρ ?_;refine ld (hJ.at (i:=2) rfl) ?_;refine ρ ?_;refine sto (p:=⟨c.J,2,none⟩) (hJ.cell 2) (hJ.frozen _) ?_;have a8:=hJ.set 2 (.int .i64 (IntKind.i64.wrap (st+1)));have a6:GrN (λk=>k=c.J) w (w.setCell ⟨c.J,2,none⟩ (.int .i64 (IntKind.i64.wrap (st+1)))):=GrN.set _ rfl;have O:GrN c.NI w (w.setCell ⟨c.J,2,none⟩ (.int .i64 (IntKind.i64.wrap (st+1)))):=GrN.set _ (.inl rfl);refine ρ ?_;generalize w.setCell ⟨c.J,2,none⟩ (.int .i64 (IntKind.i64.wrap (st+1)))=w2 at *
 have H2:Cfg c Y w2 z (λi=>lv (c.vars i) c.n) p e f h l:=by
  refine ⟨H.env.gr (O.mono λk _ hk=>hok.sub k hk),λi hi=>?_,Jr H.row a6 (λg eg=>H.rowJ eg),H.zl,⟨_,by rw [a2,a1];exact a8⟩,hY.keep _ _ _ H.y O⟩;obtain ⟨st,Z⟩:=H.its i hi;exact ⟨st,Jd Z a6 (hok.gj i hi)⟩
 refine drN (λ_=>False) 10 [(0,0),(0,1),(0,2),(0,3),(0,4),(0,5),(0,6),(0,7),(2,8),(2,9)] kr ?_;have G:Ext w2 w2.drew:=(Ext.refl w2).drew;have a7:=a8.ext G;have H3:=H2.ext hY G;refine ρn ?_;refine nld (Jm (a7.at (i:=3) rfl) (λe=>e)) ?_;refine ρn ?_;refine nld (Jm (a7.at (i:=0) rfl) (λe=>e)) ?_;refine ρn ?_;refine Xv ?_;have a3:Lt [] (l++[z]):=by
  refine List.pairwise_append.2 ⟨hl,List.pairwise_singleton _ _,λx hx y hy=>?_⟩;rw [List.mem_singleton.1 hy];exact hls x hx z o rfl
 have a4:l.length<65536:=by
  have:=hcap (l++[z]) a3 (λx hx=>by
   rcases List.mem_append.1 hx with h'|h'
   .exact hla x h'
   .rw [List.mem_singleton.1 h'];exact o)
  rw [List.length_append]at this;simp at this;omega
 refine clv (U l _ c.rowv z H3.y (H3.rowV hok) a4) ?_;rintro u w4 ⟨rfl,a9,C⟩;refine ρ ?_;refine Us ?_;refine Xv ?_;refine ρ ?_;have a5:GrN c.N w w4:=((O.mono λk _ hk=>hok.sub k hk).trans (GrN.ext G)).trans (C.mono λk _ hk=>hY.sub k hk);refine Jj ⟨rfl,a5,z,f,h,l++[z],⟨H.env.gr a5,λi hi=>?_,Jr H3.row C (λg eg hn=>hY.off g hn (.inr (.inr eg))),H.zl,?_,a9⟩,rfl,λi hi k hk=>⟨rfl,rfl⟩,a3,λx=>?_⟩
 .obtain ⟨st,Z⟩:=H3.its i hi;exact ⟨st,Jd Z C (λhn=>hY.off _ hn (.inr (.inl ⟨i,hi,rfl⟩)))⟩
 .obtain ⟨st,Z⟩:=H3.jb;exact ⟨st,Jd Z C (λhn=>hY.off _ hn (.inl rfl))⟩
 .rw [List.mem_append,List.mem_singleton];constructor
  .rintro (h'|rfl)
   .exact .inl h'
   .exact .inr ⟨o,rfl⟩
  .rintro (h'|⟨Z,h2⟩)
   .exact .inl h'
   .exact .inr (Qwn Z.1 H.zl h2)
open Go.RowKit Pl Go.Wk
structure LS where
 L: Nat->Nat
 p:Nat->Nat
 e:Nat->Nat
 f:Nat->Nat->Nat
 h:Nat->Nat->Nat
def LS.upd(S:LS)(i L p e:Nat)(f h:Nat->Nat): LS:=⟨Wk.upd S.L i L,Wk.upd S.p i p,Wk.upd S.e i e,Wk.upd S.f i f,Wk.upd S.h i h⟩
theorem Cfg.congr{c:JC}{Y:List Row->World->Prop}{w:World}{z:Row}{L p e L' p' e':Nat->Nat}{f h f' h':Nat->Nat->Nat}{l:List Row}(H:Cfg c Y w z L p e f h l)(h1:∀ i,i<c.m->L' i=L i/\p' i=p i/\e' i=e i/\f' i=f i/\h' i=h i): Cfg c Y w z L' p' e' f' h' l :=
 ⟨H.env,λi hi=>by obtain ⟨J,G,C,u,o⟩:=h1 i hi;rw [J,G,C,u,o];exact H.its i hi,H.row,H.zl,H.jb,H.y⟩
def JC.vl(c:JC)(v i a:Nat): V:=(lvl (c.F.rs i) (lv (c.vars i) v)).getD a V0
structure Sib(c:JC)(v:Nat)(z:Row)(lo hi:Nat->Nat): Prop where
 lt:∀ i∈c.I v,lo i<hi i/\hi i<=(pfx (c.F.rs i) (lv (c.vars i) v+1)).length
 ch:∀ i∈c.I v,∀ a,a<(pfx (c.F.rs i) (lv (c.vars i) v+1)).length->(((pfx (c.F.rs i) (lv (c.vars i) v+1)).getD a []).take (lv (c.vars i) v)=(pmR (c.vars i) z).take (lv (c.vars i) v)↔lo i<=a/\a<hi i)
section
variable {c:JC} {v:Nat} {z:Row} {lo hi:Nat->Nat}
theorem JOk.lvd(hok:JOk c){i:Nat}(hi:i∈c.I v): lv (c.vars i) v+1<=c.F.d i:=by
 obtain ⟨o,u⟩:=JC.mem_I.1 hi;rw [hok.d i o];exact (Vd (hok.asc i o) u).2.1
theorem Sib.node(hok:JOk c)(hS:Sib c v z lo hi){i a:Nat}(him:i∈c.I v)(h1:lo i<=a)(h2:a<hi i): (pfx (c.F.rs i) (lv (c.vars i) v+1)).getD a []=(pmR (c.vars i) z).take (lv (c.vars i) v)++[c.vl v i a]:=by
 obtain ⟨o,G⟩:=JC.mem_I.1 him;have C:=hS.lt i him;have u:a<(pfx (c.F.rs i) (lv (c.vars i) v+1)).length:=om
 have O:=(hS.ch i him a u).2 ⟨h1,h2⟩;have J:=Qbt (Ut (hok.srt i o)) (hok.len i o) (hok.lvd him) (getD_mem' [] _ u);rw [Qwm J O,JC.vl,Qfc u]
theorem Sib.srt(hok:JOk c)(hS:Sib c v z lo hi){i a b:Nat}(him:i∈c.I v)(h1:lo i<=a)(h2:a<b)(h3:b<hi i): cmpV (c.vl v i a) (c.vl v i b)<0:=by
 obtain ⟨o,G⟩:=JC.mem_I.1 him;have C:=hS.lt i him;have u:=(Jzc (Ut (hok.srt i o)) (lv (c.vars i) v+1)).1.at h2 om;rw [hS.node hok him h1 om,hS.node hok him om h3]at u;have key:∀ (y:Row) (a b:V),Jw (y++[a]) (y++[b]) []<0->cmpV a b<0:=λy a b=>by
  induction y with
  | nil=>
   intro h;simp only [List.nil_append,Jw]at h;by_cases e:cmpV a b=0
   .rw [if_pos e]at h;omega
   .rw [if_neg e]at h;exact h
  | cons x y ih=>
   intro h;simp only [List.cons_append,Jw,Zv,if_true,List.drop_nil]at h;exact ih h
 exact key _ _ _ u
theorem Sib.ans(hok:JOk c)(hS:Sib c v z lo hi){y:Row}(hy:c.Ans y)(ht:y.take v=z.take v){i:Nat}(him:i∈c.I v): ∃ a,lo i<=a/\a<hi i/\c.vl v i a=y.getD v V0:=by
 obtain ⟨o,G⟩:=JC.mem_I.1 him;have Z:=(Jjw (Ut (hok.srt i o)) (l:=lv (c.vars i) v+1)).2 ⟨_,hy.2 i o,rfl⟩;obtain ⟨a,O,U⟩:=List.getElem_of_mem Z;rw [Jpb (hok.asc i o) G,Jcj (hok.asc i o) ht]at U;have u:(pfx (c.F.rs i) (lv (c.vars i) v+1)).getD a []=(pmR (c.vars i) z).take (lv (c.vars i) v)++[y.getD v V0]:=by rw [Jp [] _ O];exact U
 have hl:((pmR (c.vars i) z).take (lv (c.vars i) v)).length=lv (c.vars i) v:=by rw [List.length_take,Qh];have:=Jrh (c.vars i) v;omega
 have C:=(hS.ch i him a O).1 (by rw [u,List.take_append_of_le_length om,List.take_of_length_le om]);refine ⟨a,C.1,C.2,?_⟩;have:=hS.node hok him C.1 C.2;rw [u]at this;have J:=List.append_cancel_left this;injection J with J
 exact J.symm
theorem Pth.step(hok:JOk c){p e p1:Nat->Nat}(hP:Pth c v z p e)(hS:Sib c v z lo hi)(hv:v<z.length){x:V}(h1:∀ i∈c.I v,lo i<=p1 i/\p1 i<hi i/\c.vl v i (p1 i)=x){z2:Row}(hz2:z2.take v=z.take v)(hz3:z2.getD v V0=x){e1:Nat->Nat}(h2:∀ i,i<c.m->i ∉ c.I v->p1 i=p i/\e1 i=e i)(h3:∀ i∈c.I v,e1 i=hi i): Pth c (v+1) z2 p1 e1:=by
 refine ⟨λi o=>?_,λi o h0=>?_⟩
 .by_cases him:i∈c.I v
  .obtain ⟨u,C⟩:=JC.mem_I.1 him;have J:=h1 i him;rw [(Vd (hok.asc i u) C).1,Jpb (hok.asc i u) C,Jcj (hok.asc i u) hz2,hz3,Yx,if_neg om,hS.node hok him J.1 J.2.1,J.2.2]
  .have G:v ∉ c.vars i:=λO=>him (JC.mem_I.2 ⟨o,O⟩);rw [Ih G,(h2 i o him).1,hP.path i o,Jcj (hok.asc i o) hz2]
 .by_cases him:i∈c.I v
  .obtain ⟨u,C⟩:=JC.mem_I.1 him;have J:=h1 i him;rw [(Vd (hok.asc i u) C).1,h3 i him];exact ⟨J.2.1,(hS.lt i him).2⟩
  .have G:v ∉ c.vars i:=λO=>him (JC.mem_I.2 ⟨o,O⟩);rw [Ih G]at h0 ⊢;rw [(h2 i o him).1,(h2 i o him).2];exact hP.rng i o h0
end
end Go.Proofs.YtebcagekopgdhaaGreatDoor
