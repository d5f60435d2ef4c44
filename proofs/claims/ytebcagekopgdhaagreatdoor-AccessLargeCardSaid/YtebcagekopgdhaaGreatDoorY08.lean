/- Part 8. -/
import Derived.Test.YtebcagekopgdhaaGreatDoorY07
import Derived.Test.YtebcagekopgdhaaGreatDoorRows
import Derived.LaidSub
import Derived.Lib.LaidTab
set_option linter.unusedVariables false
set_option maxRecDepth 100000
set_option maxHeartbeats 40000000
namespace Go.Proofs.YtebcagekopgdhaaGreatDoor
open Pl Go.Wk
variable {l out:List Row}{i k m n s v:Nat}{vars:Nat->List Nat}{rs:Nat->List Row}{g g':Nat->Row}{y z:Row}
theorem Jzx{α:Type}: ∀ {l m:List α},l.Nodup->(∀ x∈l,x∈m)->l.length<=m.length
 | [],_,_,_=>Nat.zero_le _
 | x::l,m,hn,hs=>by
  obtain ⟨a,b,rfl⟩:=List.append_of_mem (hs x mC);have hn':=List.nodup_cons.1 hn;have:=Jzx (l:=l) (m:=a++b) hn'.2 λy hy=>by
   have h1:=hs y (List.mem_cons_of_mem _ hy);rcases List.mem_append.1 h1 with h2|h2
   .exact List.mem_append_left _ h2
   .rcases List.mem_cons.1 h2 with rfl|h2
    .exact absurd hy hn'.1
    .exact List.mem_append_right _ h2
  simp only [List.length_append,List.length_cons]at this ⊢;omega
def Ku(rs:Nat->List Row): Nat->List (List Row)
 | 0=>[[]]
 | m+1=>(Ku rs m).flatMap λc=>(rs m).map λr=>c++[r]
theorem Qqn(rs:Nat->List Row): ∀ m,(Ku rs m).length=Jf m λi=>(rs i).length
 | 0=>rfl
 | m+1=>by
  rw [Ku,Jf,<-Qqn rs m];generalize Ku rs m=l
  induction l with
  | nil=>simp
  | cons c l ih=>rw [List.flatMap_cons,List.length_append,ih,List.length_map,List.length_cons,Nat.succ_mul,Nat.add_comm]
theorem Qqm{rs:Nat->List Row}(g:Nat->Row): ∀ m,(∀ i,i<m->g i∈rs i)->(List.range m).map g∈Ku rs m
 | 0,_=>by simp [Ku]
 | m+1,h=>by
  rw [List.range_succ,List.map_append,Ku,List.mem_flatMap];refine ⟨_,Qqm g m λi hi=>h i om,?_⟩;exact List.mem_map.2 ⟨g m,h m om,rfl⟩
theorem Qqk(F:(Nat->Row)->Row)(hF:∀ g g',(∀ i,i<m->g i=g' i)->F g=F g')(hn:l.Nodup)(h:∀ x∈l,∃ g:Nat->Row,(∀ i,i<m->g i∈rs i)/\x=F g):
  l.length<=Jf m λi=>(rs i).length:=by
 rw [<-Qqn];have:=Jzx (m:=(Ku rs m).map λc=>F λi=>c.getD i []) hn λx o=>by
  obtain ⟨g,u,rfl⟩:=h x o;refine List.mem_map.2 ⟨_,Qqm g m u,hF _ _ λi hi=>?_⟩;simp [List.getD,hi]
 rw [List.length_map]at this;exact this
theorem Jdz{ds:List Bool}(h:Lt ds l): l.Nodup:=h.imp fun {a b} hab e=>by rw [e,Yw]at hab;omega
def Iu(m:Nat)(vars:Nat->List Nat)(g:Nat->Row)(v:Nat): V:=match (List.range m).find? λi=>decide (v∈vars i) with
 | some i=>(g i).getD (lv (vars i) v) V0
 | none=>V0
theorem Jrr(h:∀ i,i<m->g i=g' i)(v:Nat): Iu m vars g v=Iu m vars g' v:=by
 unfold Iu;cases hf:(List.range m).find? λi=>decide (v∈vars i) with
 | none=>rfl
 | some i=>simp only;rw [h i (List.mem_range.1 (List.mem_of_find?_eq_some hf))]
theorem Jrq(hasc:∀ i,i<m->Qo (vars i))(hc:∃ i,i<m/\v∈vars i)(h:∀ i,i<m->∀ j,j<(vars i).length->(vars i).getD j 0=v->(g i).getD j V0=z.getD v V0): Iu m vars g v=z.getD v V0:=by
 unfold Iu;cases hf:(List.range m).find? λi=>decide (v∈vars i) with
 | none=>
  obtain ⟨i,hi,o⟩:=hc;have:=List.find?_eq_none.1 hf i (List.mem_range.2 hi);simp [o]at this
 | some i=>
  have hi:=List.mem_range.1 (List.mem_of_find?_eq_some hf);have o:v∈vars i:=by simpa using List.find?_some hf
  have:=Vt (hasc i hi) o;exact h i hi _ this.2.1 this.2.2
theorem Xjm(hasc:∀ i,i<m->Qo (vars i))(hc:∀ v,v<n->∃ i,i<m/\v∈vars i)(hs:s<2^n)(hl:Lt [] l)(h:∀ x∈l,∃ z:Row,z.length=n/\x=pmR (bk s 32) z/\Kc m vars rs s z): l.length<=Jf m λi=>(rs i).length:=by
 refine Qqk (F:=λg=>(bk s 32).map (Iu m vars g)) (λg g' u=>List.map_congr_left λv _=>Jrr u v) (Jdz hl) λx G=>?_;obtain ⟨z,Z,rfl,C⟩:=h x G;obtain ⟨g,u⟩:∃ g:Nat->Row,∀ i,i<m->g i∈rs i/\∀ j,j<(vars i).length->s.testBit ((vars i).getD j 0)=true->(g i).getD j V0=z.getD ((vars i).getD j 0) V0:=by
  refine ⟨λi=>if hi:i<m then Classical.choose (C i hi) else [],λi hi=>?_⟩;simp only [hi,dite_true];exact Classical.choose_spec (C i hi)
 refine ⟨g,λi hi=>(u i hi).1,?_⟩;unfold pmR;refine List.map_congr_left λv O=>?_;obtain ⟨J,o⟩:=bk_mem.1 O;refine (Jrq hasc (hc v (Jxz hs o)) λi hi j U e=>?_).symm;have:=(u i hi).2 j U (by rw [e];exact o);rw [e]at this;exact this
section
variable (m:Nat) (vars:Nat->List Nat) (rs:Nat->List Row)
def Yo(vl:List Nat)(r:Row): Bool:=(List.range m).all λi=>(rs i).any λx=>decide (pmR (Ql (vars i) (Qk vl &&& Qk (vars i))) x=pmR (Ql vl (Qk vl &&& Qk (vars i))) r)
def Jks(v:Nat): List Row:=(List.range m).flatMap λi=>(List.range (vars i).length).flatMap λk=>if (vars i).getD k 0=v then (rs i).map λr=>[r.getD k V0] else []
def Uw(v:Nat): List Row:=(Jks m vars rs v).foldl (Zw []) []
def Xz(v:Nat): List V:=(Uw m vars rs v).map λr=>r.getD 0 V0
def Ig(vl:List Nat)(k:Nat)(out:List Row): List Row:=out.flatMap λr=>((Xz m vars rs (vl.getD k 0)).map λx=>r++[x]).filter (Yo m vars rs (vl.take (k+1)))
def Xq(vl:List Nat): Nat->List Row
 | 0=>[[]]
 | k+1=>Ig m vars rs vl k (Xq vl k)
def Xh(n:Nat): List Row:=if n=0 then (if Yo m vars rs [] [] then [[]] else []) else Xq m vars rs (List.range n) n
end
section
variable {n m:Nat} {vars:Nat->List Nat} {rs:Nat->List Row}
theorem Jkn{ds:List Bool}: ∀ (ls:List Row) {done l:List Row},Zz ds done l->Zz ds (done++ls) (ls.foldl (Zw ds) l)
 | [],done,l,h=>by simpa using h
 | r::ls,done,l,h=>by
  rw [List.foldl_cons];have:=Jkn ls (Qdp (r:=r) h);rwa [List.append_assoc]at this
theorem Jwx(v:Nat): Zz [] (Jks m vars rs v) (Uw m vars rs v):=by
 have:=Jkn (ds:=[]) (Jks m vars rs v) (done:=[]) (l:=[]) ⟨List.Pairwise.nil,λx=>Iff.rfl⟩;rwa [List.nil_append]at this
theorem enumV_mem: y∈Jks m vars rs v↔∃ i,i<m/\∃ k,k<(vars i).length/\(vars i).getD k 0=v/\∃ r∈rs i,y=[r.getD k V0]:=by
 unfold Jks;simp only [List.mem_flatMap,List.mem_range];constructor
 .rintro ⟨i,hi,k,u,h⟩;split at h
  .rename_i e;obtain ⟨r,o,rfl⟩:=List.mem_map.1 h;exact ⟨i,hi,k,u,e,r,o,rfl⟩
  .cases h
 .rintro ⟨i,hi,k,u,e,r,o,rfl⟩;exact ⟨i,hi,k,u,by rw [if_pos e];exact List.mem_map.2 ⟨r,o,rfl⟩⟩
theorem valL_mem{x:V}: x∈Xz m vars rs v↔∃ i,i<m/\∃ k,k<(vars i).length/\(vars i).getD k 0=v/\∃ r∈rs i,x=r.getD k V0:=by
 unfold Xz;rw [List.mem_map];constructor
 .rintro ⟨y,C,rfl⟩;obtain ⟨i,hi,k,u,e,r,o,rfl⟩:=enumV_mem.1 (((Jwx v).2 y).1 C);exact ⟨i,hi,k,u,e,r,o,rfl⟩
 .rintro ⟨i,hi,k,u,e,r,o,rfl⟩;exact ⟨_,((Jwx v).2 _).2 (enumV_mem.2 ⟨i,hi,k,u,e,r,o,rfl⟩),rfl⟩
theorem Jbx(hy:y∈Uw m vars rs v): ∃ x,y=[x]:=by
 obtain ⟨i,hi,k,u,e,r,o,rfl⟩:=enumV_mem.1 (((Jwx v).2 y).1 hy);exact ⟨_,rfl⟩
theorem Qvr(v:Nat): (Xz m vars rs v).Nodup:=by
 unfold Xz List.Nodup;rw [List.pairwise_map];refine List.Pairwise.imp_of_mem (fun {a b} ha hb hab e=>?_) (Jwx (m:=m) (vars:=vars) (rs:=rs) v).1;obtain ⟨x,rfl⟩:=Jbx ha;obtain ⟨y,rfl⟩:=Jbx hb;simp only [List.getD_cons_zero]at e;subst e;rw [Yw]at hab;omega
theorem Qnb{α β:Type}{f:α->List β}{l:List α}(h1:l.Nodup)(h2:∀ a∈l,(f a).Nodup)(h3:∀ a∈l,∀ b∈l,∀ x,x∈f a->x∈f b->a=b): (l.flatMap f).Nodup:=by
 induction l with
 | nil=>exact List.Pairwise.nil
 | cons a l ih=>
  obtain ⟨U,O⟩:=List.nodup_cons.1 h1;rw [List.flatMap_cons,List.nodup_append];refine ⟨h2 a mC,ih O (λb o=>h2 b (List.mem_cons_of_mem _ o)) (λb o c J=>h3 b (List.mem_cons_of_mem _ o) c (List.mem_cons_of_mem _ J)),λx G y C e=>?_⟩;subst e;obtain ⟨b,o,u⟩:=List.mem_flatMap.1 C;have:=h3 a mC b (List.mem_cons_of_mem _ o) x G u;subst this;exact U o
theorem Qbn{vl:List Nat}(h:out.Nodup): (Ig m vars rs vl k out).Nodup:=by
 unfold Ig;refine Qnb h (λr _=>?_) λa _ b _ x u o=>?_
 .refine List.Pairwise.sublist List.filter_sublist ?_;show (List.map _ _).Nodup;unfold List.Nodup;rw [List.pairwise_map];refine (Qvr (m:=m) (vars:=vars) (rs:=rs) (vl.getD k 0)).imp fun {x y} hxy e=>hxy ?_
  have:=List.append_cancel_left e;simpa using this
 .obtain ⟨G,O,rfl⟩:=List.mem_map.1 (List.mem_filter.1 u).1;obtain ⟨C,J,e⟩:=List.mem_map.1 (List.mem_filter.1 o).1;have:=congrArg List.dropLast e;simpa using this.symm
theorem Qzs(vl:List Nat): ∀ k,(Xq m vars rs vl k).Nodup
 | 0=>by simp [Xq]
 | k+1=>Qbn (Qzs vl k)
def Kb(m:Nat)(vars:Nat->List Nat)(rs:Nat->List Row)(k:Nat)(z:Row): Prop:=∀ i,i<m->∃ x∈rs i,∀ j,j<(vars i).length->(vars i).getD j 0<k->x.getD j V0=z.getD ((vars i).getD j 0) V0
theorem Ir{n:Nat}(h:i<n): (List.range n).getD i 0=i:=by simp [List.getD,h]
theorem Qrc(k s:Nat): Ql (List.range k) s=(List.range k).filter λu=>s.testBit u:=by
 unfold Ql;rw [List.length_range];exact List.filter_congr λu o=>by rw [Ir (List.mem_range.1 o)]
theorem Xjv{l:List Nat}{p:Nat->Bool}(ha:Qo l)(hp:∀ u,p u=true↔u∈l): (List.range k).filter p=l.filter λu=>decide (u<k):=by
 have key:∀ {a b:List Nat},Qo a->Qo b->(∀ u,u∈a↔u∈b)->a=b:=by
  intro a;induction a with
  | nil=>
   intro b _ _ h;cases b with
   | nil=>rfl
   | cons y b=>have:=(h y).2 mC;cases this
  | cons x a ih=>
   intro b ha O h;cases b with
   | nil=>have:=(h x).1 mC;cases this
   | cons y b=>
    obtain ⟨J,a2⟩:=List.pairwise_cons.1 ha;obtain ⟨G,b2⟩:=List.pairwise_cons.1 O;have C:x=y:=by
     have Z:=(h x).1 mC;have U:=(h y).2 mC;rcases List.mem_cons.1 Z with h3|h3
     .exact h3
     .rcases List.mem_cons.1 U with h4|h4
      .exact h4.symm
      .have:=J y h4;have:=G x h3;omega
    subst C;rw [ih a2 b2 λu=>?_];constructor
    .intro o;rcases List.mem_cons.1 ((h u).1 (List.mem_cons_of_mem _ o)) with h3|h3
     .subst h3;have:=J u o;omega
     .exact h3
    .intro o;rcases List.mem_cons.1 ((h u).2 (List.mem_cons_of_mem _ o)) with h3|h3
     .subst h3;have:=G u o;omega
     .exact h3
 refine key (List.Pairwise.sublist List.filter_sublist List.pairwise_lt_range) (List.Pairwise.sublist List.filter_sublist ha) λu=>?_;simp only [List.mem_filter,List.mem_range,decide_eq_true_eq,hp];exact ⟨λh=>⟨h.2,h.1⟩,λh=>⟨h.2,h.1⟩⟩
theorem Jgd(hasc:∀ i,i<m->Qo (vars i))(hlen:∀ i,i<m->∀ r∈rs i,r.length=(vars i).length)(k:Nat)(z:Row): Yo m vars rs (List.range k) z=true↔Kb m vars rs k z:=by
 unfold Yo Kb;simp only [List.all_eq_true,List.mem_range,List.any_eq_true,decide_eq_true_eq];refine ⟨λh i hi=>?_,λh i hi=>?_⟩;all_goals
  have o:∀ u,(Qk (List.range k) &&& Qk (vars i)).testBit u=true↔u<k/\u∈vars i:=λu=>by
   rw [Nat.testBit_and,Bool.and_eq_true,edgeOf_bit,edgeOf_bit,List.mem_range]
  obtain ⟨x,O,e⟩:=h i hi;refine ⟨x,O,?_⟩;have U:Ql (List.range k) (Qk (List.range k) &&& Qk (vars i))=inS (vars i) (Qk (List.range k) &&& Qk (vars i)):=by
   rw [Qrc];have:(List.range k).filter (λu=>(Qk (List.range k) &&& Qk (vars i)).testBit u)=(List.range k).filter λu=>decide (u∈vars i):=List.filter_congr λu J=>by
    rw [Bool.eq_iff_iff,o u,decide_eq_true_eq];exact ⟨λh=>h.2,λh=>⟨List.mem_range.1 J,h⟩⟩
   rw [this,Xjv (hasc i hi) λu=>by simp];unfold inS;refine List.filter_congr λu J=>?_;rw [Bool.eq_iff_iff,o u,decide_eq_true_eq];exact ⟨λh=>⟨h,J⟩,λh=>h.1⟩
  have G:=Jgp (vars:=vars i) (s:=Qk (List.range k) &&& Qk (vars i)) (r:=x) (z:=z) (hlen i hi x O) (vars i).length (Nat.le_refl _);rw [List.take_length]at G;have e3:Xp (vars i) (Qk (List.range k) &&& Qk (vars i)) (vars i).length=Ql (vars i) (Qk (List.range k) &&& Qk (vars i)):=rfl;rw [e3]at G
 .rw [U]at e;intro j C Z;exact G.1 e j C ((o _).2 ⟨Z,getD_mem' 0 _ C⟩)
 .rw [U];exact G.2 λj C hb=>e j C ((o _).1 hb).1
theorem Qnh{l:Nat}(hkl:k<=l): Kb m vars rs k (z.take l)↔Kb m vars rs k z:=by
 unfold Kb;refine forall_congr' λi=>forall_congr' λhi=>exists_congr λx=>and_congr_right λu=>forall_congr' λj=>forall_congr' λC=>?_;refine ⟨λh o=>?_,λh o=>?_⟩
 .have:=h o;rwa [Pl.getD_take V0 om]at this
 .rw [Pl.getD_take V0 om];exact h o
theorem Jbd(hasc:∀ i,i<m->Qo (vars i))(hlen:∀ i,i<m->∀ r∈rs i,r.length=(vars i).length)(hn:∀ v,v<n->∃ i,i<m/\v∈vars i): ∀ k,k<=n->∀ z:Row,z∈Xq m vars rs (List.range n) k↔z.length=k/\(k=0∨Kb m vars rs k z)
 | 0,_,z=>by
  rw [Xq,List.mem_singleton];exact ⟨λh=>by subst h;exact ⟨rfl,.inl rfl⟩,λh=>List.eq_nil_of_length_eq_zero h.1⟩
 | k+1,hk,z=>by
  have ih:=Jbd hasc hlen hn k om;rw [Xq];unfold Ig;rw [Ir om,Jpw om];simp only [List.mem_flatMap,List.mem_filter,List.mem_map];constructor
  .rintro ⟨r,hr,⟨x,hx,rfl⟩,hf⟩;have h1:=(ih r).1 hr;exact ⟨by simp [h1.1],.inr ((Jgd hasc hlen (k+1) _).1 hf)⟩
  .rintro ⟨hl,h⟩;have hf:Kb m vars rs (k+1) z:=h.resolve_left om;have hz:z=z.take k++[z.getD k V0]:=Jnl V0 hl;refine ⟨z.take k,(ih _).2 ⟨by rw [List.length_take];omega,?_⟩,⟨z.getD k V0,?_,hz.symm⟩,(Jgd hasc hlen (k+1) _).2 hf⟩
   .refine .inr ((Qnh (Nat.le_refl _)).2 λi hi=>?_);obtain ⟨x,hx,h1⟩:=hf i hi;exact ⟨x,hx,λj hj hjk=>h1 j hj om⟩
   .obtain ⟨i,hi,hv⟩:=hn k om;obtain ⟨x,hx,h1⟩:=hf i hi;have h2:=Vt (hasc i hi) hv;refine valL_mem.2 ⟨i,hi,_,h2.2.1,h2.2.2,x,hx,?_⟩;have:=h1 _ h2.2.1 (by rw [h2.2.2];omega);rw [h2.2.2]at this;exact this.symm
theorem Qzt(hasc:∀ i,i<m->Qo (vars i))(hlen:∀ i,i<m->∀ r∈rs i,r.length=(vars i).length)(hn:∀ v,v<n->∃ i,i<m/\v∈vars i)(hk:k<=n): (Xq m vars rs (List.range n) k).length<=max 1 (Jf m λi=>(rs i).length):=by
 by_cases h0:k=0
 .subst h0;simp only [Xq,List.length_singleton];omega
 .refine nL (Qqk (F:=λg=>(List.range k).map (Iu m vars g)) (λg g' o=>List.map_congr_left λv _=>Jrr o v) (Qzs _ k) λx G=>?_) (Nat.le_max_right _ _);obtain ⟨h1,Z⟩:=(Jbd hasc hlen hn k hk x).1 G;have C:Kb m vars rs k x:=Z.resolve_left h0;obtain ⟨g,o⟩:∃ g:Nat->Row,∀ i,i<m->g i∈rs i/\∀ j,j<(vars i).length->(vars i).getD j 0<k->(g i).getD j V0=x.getD ((vars i).getD j 0) V0:=by
   refine ⟨λi=>if hi:i<m then Classical.choose (C i hi) else [],λi hi=>?_⟩;simp only [hi,dite_true];exact Classical.choose_spec (C i hi)
  refine ⟨g,λi hi=>(o i hi).1,?_⟩;apply List.ext_getElem
  .simp [h1]
  .intro v u J;have O:=Jrq (g:=g) (z:=x) hasc (hn v om) λi hi j U e=>by
    have:=(o i hi).2 j U om;rw [e]at this;exact this
   rw [List.getElem_map,List.getElem_range,O];simp [List.getD,u]
theorem Jfp(hasc:∀ i,i<m->Qo (vars i))(hlen:∀ i,i<m->∀ r∈rs i,r.length=(vars i).length)(hlt:∀ i,i<m->∀ v∈vars i,v<n)(hn:∀ v,v<n->∃ i,i<m/\v∈vars i)(z:Row): z∈Xh m vars rs n↔Zk n m vars rs z:=by
 have key:z.length=n->(Kb m vars rs n z↔∀ i,i<m->pmR (vars i) z∈rs i):=λu=>by
  constructor
  .intro h i hi;obtain ⟨x,J,G⟩:=h i hi;have:pmR (vars i) z=x:=by
    apply List.ext_getElem
    .rw [Qm,hlen i hi x J]
    .intro j o h3;rw [Qm]at o;have Z:(vars i).getD j 0<n:=hlt i hi _ (getD_mem' 0 _ o);have O:=G j o Z;have e1:(vars i).getD j 0=(vars i)[j]:=by simp [List.getD,o]
     have e2:x.getD j V0=x[j]:=by simp [List.getD,h3]
     rw [e1,e2]at O;simp only [pmR,List.getElem_map];exact O.symm
   rw [this];exact J
  .intro h i hi;refine ⟨_,h i hi,λj U _=>?_⟩;unfold pmR;simp [List.getD,U]
 unfold Xh Zk;split
 .rename_i h0;subst h0;have C:=Jgd (vars:=vars) (rs:=rs) hasc hlen 0 [];rw [List.range_zero]at C;constructor
  .intro h;split at h
   .rename_i hb;rw [List.mem_singleton.1 h];exact ⟨rfl,(by have:=key;rw [List.mem_singleton.1 h]at this;exact (this rfl).1 (C.1 hb))⟩
   .cases h
  .rintro ⟨G,o⟩;have u:z=[]:=List.eq_nil_of_length_eq_zero G;subst u;rw [if_pos (C.2 ((key rfl).2 o))];exact List.mem_singleton.2 rfl
 .rename_i h0;rw [Jbd hasc hlen hn n (Nat.le_refl _) z];exact and_congr_right λu=>⟨λh=>(key u).1 (h.resolve_left h0),λh=>.inr ((key u).2 h)⟩
theorem Jtg(hasc:∀ i,i<m->Qo (vars i))(hlen:∀ i,i<m->∀ r∈rs i,r.length=(vars i).length)(hn:∀ v,v<n->∃ i,i<m/\v∈vars i): (Xh m vars rs n).length<=max 1 (Jf m λi=>(rs i).length):=by
 unfold Xh;split
 .split<;>simp<;>omega
 .exact Qzt hasc hlen hn (Nat.le_refl _)
end
end Go.Proofs.YtebcagekopgdhaaGreatDoor
namespace Go.Wk
open Go.RowKit
variable {k2:IntKind}{s v:Nat}{x y:Operand}{t yt:TypeId}
section
variable {P:Program} {n:Nat} {al:AL} {w:World} {Q:Exit->Act->World->Prop} {ops:Array Oper} {rest:List Oper} {d ty:Nat} {pos:String} {aft:Array Edge}
theorem sr32g(hv:v<=32)(kk:WL P n ops Q rest ((d,.int .u32 ((s / 2^v:Nat):Int))::al) w)(hx:ev al x=some (.int .u32 (s:Int)):=by rfl)(hy:ev al y=some (.int k2 (v:Int)):=by rfl)(hd:Nat.blt d n=true:=by rfl):
  WL P n ops Q (⟨some d,.binOp .shr t x y yt,ty,pos,aft,none⟩::rest) al w:=by
 rw [<-Jns s v hv]at kk;exact wop hd (λa o=>Jnz hx hy om o (some d) w) kk
theorem Jnm(hv:v<32)(kk:WL P n ops Q rest ((d,.int .u32 ((2^v:Nat):Int))::al) w)(hy:ev al y=some (.int k2 (v:Int)):=by rfl)(hd:Nat.blt d n=true:=by rfl):
  WL P n ops Q (⟨some d,.binOp .shl t (.const (.int .u32 1)) y yt,ty,pos,aft,none⟩::rest) al w:=by
 rw [<-Jvd hv]at kk;exact wop hd (λa o=>Jzp (x:=.const (.int .u32 1)) rfl hy om o (some d) w) kk
end
end Go.Wk
namespace Go.Proofs.YtebcagekopgdhaaGreatDoor
open Go.RowKit Pl Go.Wk
attribute [local irreducible] WC WL QX WD WDB WP WN WG WH
variable {l vars:List Nat}{s:Nat}{rv v vv:Value}{w:World}
theorem IntsV.n(h:IntsV w v (nz l)): ∃ A c,v=.slice A l.length c/\l.length<=c/\l.length<=1100000/\Rd w 1 A l.length (Jt (nz l)):=by
 obtain ⟨A,c,G,C,u,o⟩:=h;rw [Qq]at G C u o;exact ⟨A,c,G,C,u,o⟩
theorem Jrb{v:Nat}(hs:s<4294967296)(hv:v<=32)(w:World): Ret Tryz.prog 194 [.int .u32 (s:Int),.int .i64 (v:Int)] w λu w'=>u=.bool (s.testBit v)/\w'=w:=by
 refine Jz Tryz.func194 Tryz.ntmps194 rfl kr rfl ?_;refine ρ ?_;refine Go.Wk.kv 7 (congrArg (λz=>Value.int .u64 z) (Uv (z:=(v:Int)) om)) ?_;refine sr32g (s:=s) (v:=v) hv ?_;refine ρ ?_;rw [Ua hs];exact Jj ⟨rfl,rfl⟩
theorem Jpx(h:IntsV w v (nz l))(hl:∀ u∈l,u<32): Ret Tryz.prog 195 [v] w λu w'=>u=.int .u32 (Qk l:Int)/\w'=w:=by
 obtain ⟨A,c,rfl,hc,hm,J⟩:=h.n;refine Jz Tryz.func195 Tryz.ntmps195 rfl kr rfl ?_;refine ρ ?_;refine Qd (fun (i:Nat)=>[(0,.slice A l.length c),(3,.int .u32 (Qk (l.take i):Int)),(4,.int .i64 (i:Int))])
  (λi w'=>i<=l.length/\w'=w) (λi=>l.length-i) 0 sB ⟨Nat.zero_le _,rfl⟩ ?_
 rintro i w1 ⟨hi,rfl⟩;refine ρ ?_;refine ci (λh=>?_) (λh=>?_)
 .have C:i<l.length:=by have:=oT h;omega
  clear h;have o:=hl _ (getD_mem' 0 l C);refine ρ ?_;refine ix i J C ?_;refine ρ ?_;refine ld (J.cell (Xn C)) ?_;refine ρ ?_;refine Go.Wk.kv 16 (congrArg (λz=>Value.int .u64 z) (Uv (z:=(l.getD i 0:Int)) om)) ?_;refine Jnm (v:=l.getD i 0) o ?_;refine ρ ?_;have e:Qk (l.take (i+1))=Qk (l.take i) ||| 2^l.getD i 0:=by rw [Qy 0 C];exact Qjt _ _ _
  have Z:Qk (l.take i)<4294967296:=Jxp (n:=32) λv O=>hl v (List.mem_of_mem_take O);have U:=Jjq Z (Gt o);rw [U,<-e];exact Qw (i+1) sO ⟨C,rfl⟩ om
 .have G:i=l.length:=by have:=oF h;omega
  subst G;clear h;refine ρ ?_;rw [List.take_length];exact Jj ⟨rfl,rfl⟩
theorem Jpz{r:Row}(hr:RowV w rv r)(hv:IntsV w vv (nz vars))(hs:s<4294967296)(hl:∀ u∈vars,u<32)(hrl:r.length=vars.length):
  Ret Tryz.prog 196 [rv,vv,.int .u32 (s:Int)] w λu w'=>RowV w' u (pmR (Ql vars s) r)/\Ext w w':=by
 obtain ⟨A,c,rfl,hc,hm,hR⟩:=id hr;obtain ⟨B,d,rfl,hd,aa,hV⟩:=hv.n;refine Jz Tryz.func196 Tryz.ntmps196 rfl kr rfl ?_;refine ρ ?_;refine bsl Jjn ?_;intro w0 b0 a1 a7 a8;refine ρ ?_;refine Ja (fun (k:Nat) (J:Value)=>[(0,.slice A r.length c),(1,.slice B vars.length d),(2,.int .u32 (s:Int)),(7,J),(8,.int .i64 (k:Int))])
  (λk J w'=>k<=vars.length/\Ext w w'/\Zt w' w.heap.size J (pmR (Xp vars s k) r)) (λk _=>vars.length-k) 0 (.slice (some ⟨b0,0,none⟩) 0 0) sB
  ⟨Nat.zero_le _,a1,a8.own (n:=0) a7 rfl (Nat.zero_le _)⟩ ?_
 rintro k J w1 ⟨hk,o,G⟩;refine ρ ?_;refine ci (λh=>?_) (λh=>?_)
 .have lk:k<vars.length:=by have:=oT h;omega
  clear h;have U:RdR w1 A r:=Rd.ext hR o;have O:=hl _ (getD_mem' 0 vars lk);have a5:(Xp vars s k).length<=k:=by
   have:=List.length_filter_le (λi=>s.testBit (vars.getD i 0)) (List.range k);rw [List.length_range]at this;exact this
  refine ρ ?_;refine ix k (hV.ext o) lk ?_;refine ρ ?_;refine ld ((hV.ext o).cell (Xn lk)) ?_;refine ρ ?_;refine cl (Jrb hs (Nat.le_of_lt O) w1) ?_;rintro _ Z ⟨rfl,e1⟩;rw [e1];clear e1 Z;refine ρ ?_;refine ci (λh=>?_) (λh=>?_)
  .refine ρ ?_;refine ixq 3 k U om ?_;refine ρ ?_;refine lds (cs:=(r.getD k V0).cells) (λj u hu=>RdR.cell U om hu) ?_;refine ρ ?_;refine bsl (Jgx _) ?_;intro w2 b C hb hB;refine ρ ?_;refine apb (m':=1) (news:=(r.getD k V0).cells) EV (Jk G C) (hB.rd (n:=1) rfl) (V.one _) (by rw [Qm];unfold maxLen;omega) (by rw [Qm];omega) (o.trans C).size ?_;intro v3 w3 a2 a4 a9;refine ρ ?_;refine Jl (k+1) v3 sO ⟨lk,Qb (o.trans C) a4 (Ga (Jk G C)),?_⟩ om;have e:pmR (Xp vars s (k+1)) r=pmR (Xp vars s k) r++[r.getD k V0]:=by rw [Ky,if_pos h];simp [pmR]
   rw [Zt,e,List.length_append,rowC_app',rowC_one''];exact a2
  .refine ρ ?_;refine Jl (k+1) J sO ⟨lk,o,?_⟩ om;rw [Ky,if_neg (by rw [h];simp),List.append_nil];exact G
 .have a3:k=vars.length:=by have:=oF h;omega
  rw [a3]at G;have a5:(Xp vars s vars.length).length<=vars.length:=by
   have:=List.length_filter_le (λi=>s.testBit (vars.getD i 0)) (List.range vars.length);rw [List.length_range]at this;exact this
  obtain ⟨A3,c3,rfl,a6,_⟩:=Jv G;refine ρ ?_;refine Jj ⟨⟨A3,c3,rfl,a6,?_,Rd.own G⟩,o⟩;show (pmR (Xp vars s vars.length) r).length<=_;rw [Qm];omega
theorem Qdf(hs:s<4294967296)(w:World): Ret Tryz.prog 173 [.int .u32 (s:Int)] w λu w'=>IntsV w' u (nz (bk s 32))/\Ext w w':=by
 refine Jz Tryz.func173 Tryz.ntmps173 rfl kr rfl ?_;refine ρ ?_;refine Ja (fun (k:Nat) (J:Value)=>[(0,.int .u32 (s:Int)),(3,J),(4,.int .i64 (k:Int))])
  (λk J w'=>k<=32/\Ext w w'/\Xu w' w.heap.size J (bk s k)) (λk _=>32-k) 0 (.slice none 0 0) sB
  ⟨Nat.zero_le _,Ext.refl _,Xo _ _ _ _⟩ ?_
 rintro k J w1 ⟨hk,C,G⟩;refine ρ ?_;refine ci (λh=>?_) (λh=>?_)
 .have lk:k<32:=by have:=oT h;omega
  clear h;have a2:=Yy s k;refine ρ ?_;refine cl (Jrb hs hk w1) ?_;rintro _ O ⟨rfl,e1⟩;rw [e1];clear e1 O;refine ρ ?_;refine ci (λh=>?_) (λh=>?_)
  .refine ρ ?_;refine bsl (bs1Int'' _) ?_;intro w2 b o hb hB;refine ρ ?_;refine apI (Jk G o) hB om (C.trans o).size ?_;intro v3 w3 U a1 a4;refine ρ ?_;refine Jl (k+1) v3 sO ⟨lk,Qb (C.trans o) a1 (Ga (Jk G o)),?_⟩ om;rw [Ut,if_pos h];exact U
  .refine ρ ?_;refine Jl (k+1) J sO ⟨lk,C,?_⟩ om;rw [Ut,if_neg (by rw [h];simp),List.append_nil];exact G
 .have Z:k=32:=by have:=oF h;omega
  rw [Z]at G;have a2:=Yy s 32;obtain ⟨A3,c3,rfl,a3,_⟩:=Jv G;refine ρ ?_;exact Jj ⟨⟨A3,c3,by rw [Qq],by rw [Qq];exact a3,by rw [Qq];omega,by rw [Qq];exact Rd.own G⟩,C⟩
open Go.RowKit Pl Go.Wk
structure RInM(w:World)(VA RA:Option Addr)(m:Nat)(vars:Nat->List Nat)(rs:Nat->List Row): Prop where
 v:∃ cs,Rd w 1 VA m cs/\∀ i,i<m->∃ u,cs[i]?=some u/\IntsV w u (nz (vars i))
 r:∃ cs,Rd w 1 RA m cs/\∀ i,i<m->∃ u,cs[i]?=some u/\RowsV w u (rs i)
theorem RInM.ext{w w':World}{VA RA:Option Addr}{m:Nat}{vars:Nat->List Nat}{rs:Nat->List Row}(h:RInM w VA RA m vars rs)(hx:Ext w w'): RInM w' VA RA m vars rs:=by
 obtain ⟨cs,O,J⟩:=h.v;obtain ⟨ds,G,C⟩:=h.r;exact ⟨⟨cs,O.ext hx,λi hi=>by obtain ⟨u,e,o⟩:=J i hi;exact ⟨u,e,o.ext hx⟩⟩,⟨ds,G.ext hx,λi hi=>by obtain ⟨u,e,o⟩:=C i hi;exact ⟨u,e,o.ext hx⟩⟩⟩
structure RefP(n m:Nat)(vars:Nat->List Nat)(rs:Nat->List Row): Prop where
 n32:n<=32
 m32:m<=32
 asc:∀ i,i<m->Qo (vars i)
 lt:∀ i,i<m->∀ v∈vars i,v<n
 len:∀ i,i<m->∀ r∈rs i,r.length=(vars i).length
 cov:∀ v,v<n->∃ i,i<m/\v∈vars i
 cnt:max 1 (Jf m λi=>(rs i).length)<=5000
 row:∀ i,i<m->(rs i).length<=10
def Vw(n f:Int)(pA:Option Addr)(pn pc:Nat)(VA:Option Addr)(vc:Nat)(RA:Option Addr)(rc m:Nat): List Value:=[.int .i64 n,.int .i64 f,.slice pA pn pc,.slice VA m vc,.slice RA m rc]
def Jkq(vars:Nat->List Nat)(rs:Nat->List Row)(vl:List Nat)(r:Row)(i:Nat)(x:Row): Bool:=decide (pmR (Ql (vars i) (Qk vl &&& Qk (vars i))) x=pmR (Ql vl (Qk vl &&& Qk (vars i))) r)
section
variable {n f:Int} {pA VA RA:Option Addr} {pn pc vc rc N m:Nat} {vars:Nat->List Nat} {rs:Nat->List Row} {w:World}
theorem Jrc(hP:RefP N m vars rs)(hM:RInM w VA RA m vars rs){vl:List Nat}{r:Row}{vv rv:Value}(hv:IntsV w vv (nz vl))(hr:RowV w rv r)(hvl:∀ u∈vl,u<32)(hrl:r.length=vl.length):
  Ret Tryz.prog 175 [.agg (Vw n f pA pn pc VA vc RA rc m).toArray,rv,vv] w λu w'=>u=.bool (Yo m vars rs vl r)/\Ext w w':=by
 have b5:=hP.m32;refine Jz Tryz.func175 Tryz.ntmps175 rfl kr rfl ?_;refine ρ ?_;refine bx (cs:=Vw n f pA pn pc VA vc RA rc m) ?_;intro w1 b J hb hB;refine ρ ?_;refine cl (Jpx (hv.ext J) hvl) ?_;rintro _ ak ⟨rfl,e1⟩;rw [e1];clear e1 ak;refine ρ ?_;refine Qd (fun (i:Nat)=>[(1,rv),(2,vv),(3,.pointer (some ⟨b,0,none⟩)),(7,.int .u32 (Qk vl:Int)),(8,.int .i64 (i:Int))])
  (λi w'=>i<=m/\Ext w1 w'/\(List.range i).all (λi=>(rs i).any (Jkq vars rs vl r i))=true) (λi=>m-i) 0 sB ⟨Nat.zero_le _,Ext.refl _,rfl⟩ ?_
 rintro i w2 ⟨hi,C,a3⟩;have aa:=hB.ext C;refine ρ ?_;refine ld (aa.at (i:=3) rfl) ?_;refine ρ ?_;refine ci (λh=>?_) (λh=>?_)
 .have li:i<m:=by have:=oT h;omega
  clear h;obtain ⟨b2,a1,ar⟩:=(hM.ext (J.trans C)).v;obtain ⟨b4,a6,au⟩:=(hM.ext (J.trans C)).r;obtain ⟨vi,ac,ag⟩:=ar i li;obtain ⟨ri,ad,b1⟩:=au i li;have O:∀ u∈vars i,u<32:=λu hu=>by have:=hP.lt i li u hu;have:=hP.n32;omega
  refine ρ ?_;refine ld (aa.at (i:=3) rfl) ?_;refine ρ ?_;refine ix i a1 li ?_;refine ρ ?_;refine ld (a1.cell ac) ?_;refine ρ ?_;refine cl (Jpx ag O) ?_;rintro _ aj ⟨rfl,e2⟩;rw [e2];clear e2 aj;have af:Qk vl<4294967296:=Jxp (n:=32) hvl;have ax:Qk (vars i)<4294967296:=Jxp (n:=32) O;refine ρ ?_;have a2:bits .and .u32 (Qk vl:Int) (Qk (vars i):Int)=((Qk vl &&& Qk (vars i):Nat):Int):=u32_and_nat _ _ af ax;have ae:Qk vl &&& Qk (vars i)<4294967296:=Nat.lt_of_le_of_lt Nat.and_le_left af;rw [a2];clear a2;refine cl (Jpz (hr.ext (J.trans C)) (hv.ext (J.trans C)) ae hvl hrl) ?_;rintro wv w3 ⟨aq,ap⟩;refine ρ ?_;refine Ja (fun (k:Nat) (bb:Bool)=>[(1,rv),(2,vv),(3,.pointer (some ⟨b,0,none⟩)),(7,.int .u32 (Qk vl:Int)),(8,.int .i64 (i:Int)),(9,.int .u32 ((Qk vl &&& Qk (vars i):Nat):Int)),(10,wv),(11,.bool bb),(12,.int .i64 (k:Int))])
   (λk bb w'=>k<=(rs i).length/\Ext w3 w'/\bb=((rs i).take k).any (Jkq vars rs vl r i)) (λk _=>(rs i).length-k) 0 false sB ⟨Nat.zero_le _,Ext.refl _,rfl⟩ ?_
  rintro k bb w4 ⟨hk,a5,Z⟩;have o:=ap.trans a5;have a9:=aa.ext o;obtain ⟨TA,tc,rfl,b7,b6,b3,ah,ay⟩:=(b1.ext o).parts;refine ρ ?_;refine ld (a9.at (i:=4) rfl) ?_;refine ρ ?_;refine ix i (a6.ext o) li ?_;refine ρ ?_;refine ld ((a6.ext o).cell ad) ?_;refine ρ ?_;have next:(rs i).any (Jkq vars rs vl r i)=true->(List.range (i+1)).all (λi=>(rs i).any (Jkq vars rs vl r i))=true:=λh=>by
   rw [List.range_succ,List.all_append,a3];simp [h]
  refine ki 42 (λh=>?_) (λh=>?_)
  .have lk:k<(rs i).length:=by have:=oT h;omega
   clear h;refine ρ ?_;refine ci (λh=>?_) (λh=>?_)
   .have a8:bb=false:=by cases bb<;>first|rfl|cases h
    subst a8;obtain ⟨xv,an,ao⟩:=ay k lk;have am:=hP.len i li _ (getD_mem' [] (rs i) lk);have G:Ext w4 w4.drew:=(Ext.refl w4).drew;have U:=o.trans G;refine ρ ?_;refine dr [(0,0),(0,1),(0,2),(0,3),(0,4),(0,5),(0,6),(0,7),(0,8),(0,9),(0,10),(0,11),(0,12),(0,13),(0,15),(1,14),(1,16),(0,17)] kr ?_;have ai:=(a6.ext U);refine ρd ?_;refine dld ((a9.ext G).at (i:=4) rfl) ?_;refine ρd ?_;refine dix i ai li ?_;refine ρd ?_;refine dld (ai.cell ad) ?_;refine ρd ?_;refine dix k (ah.ext G) lk ?_;refine ρd ?_;refine dld ((ah.ext G).cell an) ?_;refine ρd ?_;refine dld ((a9.ext G).at (i:=3) rfl) ?_;refine ρd ?_;refine dix i (a1.ext U) li ?_;refine ρd ?_;refine dld ((a1.ext U).cell ac) ?_;refine ρd ?_;refine dcl (Jpz (ao.ext G) (ag.ext U) ae O am) ?_;rintro pv w5 ⟨av,a4⟩;refine ⟨a4,?_⟩;refine ρd ?_;refine dcl (Jvg av (aq.ext ((a5.trans G).trans a4))) ?_;rintro _ w6 ⟨rfl,ab⟩;refine ⟨ab,?_⟩
    refine ρd ?_;refine ρ ?_;refine Jl (k+1) (Jkq vars rs vl r i ((rs i).getD k [])) sO ⟨lk,((a5.trans G).trans a4).trans ab,?_⟩ om;rw [Qy [] lk,List.any_append,<-Z];simp
   .have a7:bb=true:=by cases bb<;>first|rfl|cases h
    subst a7;refine ρ ?_;refine Qw (i+1) sO ⟨li,C.trans o,next ?_⟩ om;rw [<-List.take_append_drop k (rs i),List.any_append,<-Z];rfl
  .have lk:k=(rs i).length:=by have:=oF h;omega
   clear h;rw [lk,List.take_length]at Z;refine ρ ?_;refine ci (λh=>?_) (λh=>?_)
   .have a8:bb=false:=by cases bb<;>first|rfl|cases h
    refine ρ ?_;refine Jj ⟨?_,(J.trans C).trans o⟩;congr 1
    symm
    refine Bool.eq_false_iff.2 λhc=>?_;have:=List.all_eq_true.1 hc i (List.mem_range.2 li);rw [a8]at Z;exact Bool.false_ne_true (Z.trans this)
   .have a7:bb=true:=by cases bb<;>first|rfl|cases h
    refine ρ ?_;exact Qw (i+1) sO ⟨li,C.trans o,next (by rw [<-Z];exact a7)⟩ om
 .have aw:i=m:=by have:=oF h;omega
  subst aw;refine ρ ?_;exact Jj ⟨congrArg Value.bool a3.symm,J.trans C⟩
end
open Go.RowKit Pl Go.Wk
theorem EVv: ElT Tryz.prog 36 47 3 32 (.agg #[.int .i64 0,.int .i64 0,.string ⟨#[]⟩]):=⟨Tryz.underlying36,info_parts kr,rfl,by decide⟩
theorem Qsn(v:V)(w:World): (Instr.buildSlice 36 1 #[(0,v.val)]).run Tryz.prog w=.ok (.slice (some ⟨w.heap.size,0,none⟩) 1 1) (w.alloc (.cells v.cells.toArray 47)):=kr
theorem Blk.rowV{w:World}{b t:Nat}{v:V}(h:Blk w b t v.cells): RowV w (.slice (some ⟨b,0,none⟩) 1 1) [v]:=⟨some ⟨b,0,none⟩,1,rfl,Nat.le_refl _,by simp,by
 have:=h.rd (n:=1) (sz:=3) rfl;unfold RdR;rw [rowC_one''];exact this⟩
def enI(vars:Nat->List Nat)(rs:Nat->List Row)(v i:Nat): List Row:=(List.range (vars i).length).flatMap λk=>if (vars i).getD k 0=v then (rs i).map λr=>[r.getD k V0] else []
def enD(vars:Nat->List Nat)(rs:Nat->List Row)(v i k:Nat): List Row:=(List.range i).flatMap (enI vars rs v)++(List.range k).flatMap λk=>if (vars i).getD k 0=v then (rs i).map λr=>[r.getD k V0] else []
def Yz(D:List Row): List Row:=D.foldl (Zw []) []
theorem Qdr(D:List Row): Zz [] D (Yz D):=by
 have:=Jkn (ds:=[]) D (done:=[]) (l:=[]) ⟨List.Pairwise.nil,λx=>Iff.rfl⟩;rwa [List.nil_append]at this
theorem Jrf(D:List Row)(r:Row): Yz (D++[r])=Zw [] (Yz D) r:=by simp [Yz]
theorem Qds(D:List Row)(r:Row): (Yz (D++[r])).length<=(Yz D).length+1:=by
 rw [Jrf];unfold Zw;split
 .omega
 .have:=Jgr [] (Yz D) r;simp;omega
section
variable {n f:Int} {pA VA RA:Option Addr} {pn pc vc rc N m:Nat} {vars:Nat->List Nat} {rs:Nat->List Row} {w:World}
theorem Qdd(hP:RefP N m vars rs)(hM:RInM w VA RA m vars rs)(v:Nat):
  Ret Tryz.prog 174 [.agg (Vw n f pA pn pc VA vc RA rc m).toArray,.int .i64 (v:Int)] w λu w'=>(RowV w' u (Xz m vars rs v)/\(Xz m vars rs v).length<=10240)/\Ext w w':=by
 have bf:=hP.m32;refine Jz Tryz.func174 Tryz.ntmps174 rfl kr rfl ?_;refine ρ ?_;refine bx (cs:=Vw n f pA pn pc VA vc RA rc m) ?_;intro w1 b a9 hb hB;refine ρ ?_;refine Ja (fun (i:Nat) (lv:Value)=>[(1,.int .i64 (v:Int)),(2,.pointer (some ⟨b,0,none⟩)),(5,lv),(6,.int .i64 (i:Int))])
  (λi lv w'=>i<=m/\Ext w1 w'/\RowsV w' lv (Yz ((List.range i).flatMap (enI vars rs v)))/\(Yz ((List.range i).flatMap (enI vars rs v))).length<=320*i) (λi _=>m-i) 0 (.slice none 0 0) sB
  ⟨Nat.zero_le _,Ext.refl _,⟨[],none,0,rfl,rfl,Nat.le_refl _,Nat.zero_le _,Rd.nil,λp hp=>by cases hp⟩,Nat.le_refl _⟩ ?_
 rintro i lv w2 ⟨hi,a8,o,J⟩;have an:=hB.ext a8;refine ρ ?_;refine ld (an.at (i:=3) rfl) ?_;refine ρ ?_;refine ci (λh=>?_) (λh=>?_)
 .have U:i<m:=by have:=oT h;omega
  clear h;have aa:∀ u∈vars i,u<32:=λu hu=>by have:=hP.lt i U u hu;have:=hP.n32;omega
  have ai:=Jwk (hP.asc i U) aa;have bb:=hP.row i U;refine ρ ?_;refine Ja (fun (k:Nat) (lv:Value)=>[(1,.int .i64 (v:Int)),(2,.pointer (some ⟨b,0,none⟩)),(5,lv),(6,.int .i64 (i:Int)),(7,.int .i64 (k:Int))])
   (λk lv w'=>k<=(vars i).length/\Ext w2 w'/\RowsV w' lv (Yz (enD vars rs v i k))/\(Yz (enD vars rs v i k)).length<=320*i+10*k) (λk _=>(vars i).length-k) 0 lv sB
   ⟨Nat.zero_le _,Ext.refl _,by unfold enD;simpa using o,by unfold enD;simpa using J⟩ ?_
  clear o J lv;rintro k lv w3 ⟨hk,C,o,J⟩;have Z:=a8.trans C;have ad:=an.ext C;obtain ⟨bc,a4,ar⟩:=(hM.ext (a9.trans Z)).v;obtain ⟨vi,aj,b8⟩:=ar i U;obtain ⟨PA,be,rfl,bj,bh,am⟩:=b8.n;refine ρ ?_;refine ld (ad.at (i:=3) rfl) ?_;refine ρ ?_;refine ix i a4 U ?_;refine ρ ?_;refine ld (a4.cell aj) ?_;refine ρ ?_;refine ci (λh=>?_) (λh=>?_)
  .have lk:k<(vars i).length:=by have:=oT h;omega
   clear h;refine ρ ?_;refine ld (ad.at (i:=3) rfl) ?_;refine ρ ?_;refine ix i a4 U ?_;refine ρ ?_;refine ld (a4.cell aj) ?_;refine ρ ?_;refine ix k am lk ?_;refine ρ ?_;refine ld (am.cell (Xn lk)) ?_;refine ρ ?_;have O:∀ D,enD vars rs v i (k+1)=D->D=enD vars rs v i k++(if (vars i).getD k 0=v then (rs i).map λr=>[r.getD k V0] else []):=λD hD=>by
    rw [<-hD];unfold enD;rw [List.range_succ,List.flatMap_append,List.append_assoc];simp
   have O:=O _ rfl;refine ci (λh=>?_) (λh=>?_)
   .have ay:(vars i).getD k 0≠v:=λe=>by have:=Gu h;omega
    rw [if_neg ay,List.append_nil]at O;refine ρ ?_;refine Jl (k+1) lv sO ⟨lk,C,by rw [O];exact o,by rw [O];omega⟩ om
   .have he:(vars i).getD k 0=v:=by have:=Kj h;omega
    rw [if_pos he]at O;clear h;refine ρ ?_;refine Ja (fun (j:Nat) (lv:Value)=>[(1,.int .i64 (v:Int)),(2,.pointer (some ⟨b,0,none⟩)),(5,lv),(6,.int .i64 (i:Int)),(7,.int .i64 (k:Int)),(8,.int .i64 (j:Int))])
     (λj lv w'=>j<=(rs i).length/\Ext w3 w'/\RowsV w' lv (Yz (enD vars rs v i k++((rs i).take j).map λr=>[r.getD k V0]))/\(Yz (enD vars rs v i k++((rs i).take j).map λr=>[r.getD k V0])).length<=320*i+10*k+j) (λj _=>(rs i).length-j) 0 lv sB
     ⟨Nat.zero_le _,Ext.refl _,by simpa using o,by simpa using J⟩ ?_
    clear o J lv;rintro j lv w4 ⟨hj,G,o,J⟩;have ah:=Z.trans G;have a6:=ad.ext G;obtain ⟨bd,a5,aw⟩:=(hM.ext (a9.trans ah)).r;obtain ⟨ri,ak,b9⟩:=aw i U;obtain ⟨TA,tc,rfl,av,au,ao,a2,ac⟩:=b9.parts;refine ρ ?_;refine ld (a6.at (i:=4) rfl) ?_;refine ρ ?_;refine ix i a5 U ?_;refine ρ ?_;refine ld (a5.cell ak) ?_;refine ρ ?_;refine ci (λh=>?_) (λh=>?_)
    .have lj:j<(rs i).length:=by have:=oT h;omega
     clear h;obtain ⟨xv,a7,a3⟩:=ac j lj;have bg:=hP.len i U _ (getD_mem' [] (rs i) lj);obtain ⟨XA,xc,rfl,af,ae,a1⟩:=id a3;refine ρ ?_;refine ld (a6.at (i:=4) rfl) ?_;refine ρ ?_;refine ix i a5 U ?_;refine ρ ?_;refine ld (a5.cell ak) ?_;refine ρ ?_;refine ix j a2 lj ?_;refine ρ ?_;refine ld (a2.cell a7) ?_;refine ρ ?_;refine ixq 3 k a1 om ?_;refine ρ ?_;refine lds (cs:=(((rs i).getD j []).getD k V0).cells) (λq u hu=>RdR.cell a1 om hu) ?_;refine ρ ?_;refine bsl (Jgx _) ?_;intro w5 b5 ag bo ba;refine ρ ?_;refine cl (Jpq (o.ext ag) (Blk.rowV ba) (BoolsV.nil _ none 0) (Qdr _).1 om) ?_;rintro ap w6 ⟨b1,aq,_⟩;have e:enD vars rs v i k++((rs i).take (j+1)).map (λr=>[r.getD k V0])=(enD vars rs v i k++((rs i).take j).map λr=>[r.getD k V0])++[[((rs i).getD j []).getD k V0]]:=by
      rw [Qy [] lj,List.map_append,List.append_assoc];rfl
     have bi:=Qds (enD vars rs v i k++((rs i).take j).map λr=>[r.getD k V0]) [((rs i).getD j []).getD k V0];refine ρ ?_;refine Jl (j+1) ap sO ⟨lj,(G.trans ag).trans aq,by rw [e,Jrf];exact b1,by rw [e];omega⟩ om
    .have b2:j=(rs i).length:=by have:=oF h;omega
     subst b2;clear h;rw [List.take_length,<-O]at o J;refine ρ ?_;exact Jl (k+1) lv sO ⟨lk,C.trans G,o,om⟩ om
  .have ab:k=(vars i).length:=by have:=oF h;omega
   subst ab;clear h;have e:(List.range (i+1)).flatMap (enI vars rs v)=enD vars rs v i (vars i).length:=by
    unfold enD;rw [List.range_succ,List.flatMap_append];simp [enI]
   refine ρ ?_;refine Jl (i+1) lv sO ⟨U,Z,by rw [e];exact o,by rw [e];omega⟩ om
 .have b3:i=m:=by have:=oF h;omega
  subst b3;clear h;have eR:Yz ((List.range i).flatMap (enI vars rs v))=Uw i vars rs v:=rfl;rw [eR]at o J;obtain ⟨TA,tc,rfl,av,au,ao,a2,ac⟩:=o.parts;refine ρ ?_;refine Ja (fun (k:Nat) (vo:Value)=>[(5,.slice TA (Uw i vars rs v).length tc),(9,vo),(10,.int .i64 (k:Int))])
   (λk vo w'=>k<=(Uw i vars rs v).length/\Ext w2 w'/\Zt w' w2.heap.size vo ((Xz i vars rs v).take k)) (λk _=>(Uw i vars rs v).length-k) 0 (.slice none 0 0) sB
   ⟨Nat.zero_le _,Ext.refl _,Xo _ _ _ _⟩ ?_
  have ai:(Xz i vars rs v).length=(Uw i vars rs v).length:=by simp [Xz]
  rintro k vo w3 ⟨hk,C,ho⟩;refine ρ ?_;refine ci (λh=>?_) (λh=>?_)
  .have lk:k<(Uw i vars rs v).length:=by have:=oT h;omega
   clear h;obtain ⟨xv,a7,a3⟩:=ac k lk;obtain ⟨x,hx⟩:=Jbx (getD_mem' [] _ lk);rw [hx]at a3;obtain ⟨XA,xc,rfl,af,ae,a1⟩:=id (a3.ext C);refine ρ ?_;refine ix k (a2.ext C) lk ?_;refine ρ ?_;refine ld ((a2.ext C).cell a7) ?_;refine ρ ?_;refine ixq 3 0 a1 (by simp) ?_;refine ρ ?_;refine lds (cs:=x.cells) (λq u hu=>RdR.cell (r:=[x]) a1 (i:=0) (by simp) hu) ?_;refine ρ ?_;refine bsl (Qsn x) ?_;intro w4 b4 G bp a6;have bn:((Xz i vars rs v).take k).length=k:=by rw [List.length_take];omega
   refine ρ ?_;refine apb (m':=1) (news:=x.cells) EVv (Jk ho G) (a6.rd (n:=1) rfl) (V.one _) (by unfold maxLen;omega) om (C.trans G).size ?_;intro v5 w5 ax b6 bm;have e:(Xz i vars rs v).take (k+1)=(Xz i vars rs v).take k++[x]:=by
    rw [Qy V0 om];congr 2
    have:(Xz i vars rs v).getD k V0=((Uw i vars rs v).getD k []).getD 0 V0:=by
     unfold Xz;simp only [List.getD,List.getElem?_map,List.getElem?_eq_getElem lk,Option.map_some,Option.getD_some]
    rw [this,hx];rfl
   refine ρ ?_;refine Jl (k+1) v5 sO ⟨lk,Qb (C.trans G) b6 (Ga (Jk ho G)),?_⟩ om;rw [Zt,e,List.length_append,rowC_app',rowC_one''];exact ax
  .have ab:k=(Uw i vars rs v).length:=by have:=oF h;omega
   rw [ab,<-ai,List.take_length]at ho;obtain ⟨A3,c3,rfl,b7,_⟩:=Jv ho;refine ρ ?_;exact Jj ⟨⟨⟨A3,c3,rfl,b7,om,Rd.own ho⟩,om⟩,(a9.trans a8).trans C⟩
end
open Go.RowKit Pl Go.Wk
attribute [local irreducible] WM
variable {k s:Nat}
def Jwl(m:Nat)(vars:Nat->List Nat)(rs:Nat->List Row)(n f:Nat)(ds:List Bool): List Row:=((Xh m vars rs n).map (List.take f)).foldl (Zw ds) []
theorem Qkg(m:Nat)(vars:Nat->List Nat)(rs:Nat->List Row)(n f:Nat)(ds:List Bool): Zz ds ((Xh m vars rs n).map (List.take f)) (Jwl m vars rs n f ds):=by
 have:=Jkn (ds:=ds) ((Xh m vars rs n).map (List.take f)) (done:=[]) (l:=[]) ⟨List.Pairwise.nil,λx=>Iff.rfl⟩;rwa [List.nil_append]at this
theorem Qdt(ds:List Bool)(l:List Row)(r:Row): (Zw ds l r).length<=l.length+1:=by
 unfold Zw;split
 .omega
 .have:=Jgr ds l r;simp;omega
section
variable {n f:Int} {pA VA RA:Option Addr} {pn pc vc rc N m:Nat} {vars:Nat->List Nat} {rs:Nat->List Row} {w:World}
theorem Jhg(hP:RefP N m vars rs)(hk:k<=N): (Xq m vars rs (List.range N) k).length<=5000:=nL (Qzt hP.asc hP.len hP.cov hk) hP.cnt
def Yx(m:Nat)(vars:Nat->List Nat)(rs:Nat->List Row)(vl:List Nat)(k:Nat)(r:Row)(j:Nat): List Row:=(((Xz m vars rs (vl.getD k 0)).take j).map λx=>r++[x]).filter (Yo m vars rs (vl.take (k+1)))
theorem Qdh(hP:RefP N m vars rs)(hM:RInM w VA RA m vars rs)(hs:s<4294967296)(hbk:bk s 32=List.range N):
  Ret Tryz.prog 156 [.agg (Vw n f pA pn pc VA vc RA rc m).toArray,.int .u32 (s:Int)] w λu w'=>RowsV w' u (Xh m vars rs N)/\Ext w w':=by
 have cz:=hP.m32;have cy:=hP.n32;refine Jz Tryz.func156 Tryz.ntmps156 rfl kr rfl ?_;refine ρ ?_;refine bx (cs:=Vw n f pA pn pc VA vc RA rc m) ?_;intro w1 b a8 hb hB;refine ρ ?_;refine cl (Qdf hs w1) ?_;rintro lv w2 ⟨bq,c7⟩;rw [hbk]at bq;obtain ⟨LA,lc,rfl,cc,cb,bb⟩:=id bq.n;rw [List.length_range]at cc cb bb ⊢;refine ρ ?_;refine bsl Jjn ?_;intro w3 b3 bi d8 da;refine ρ ?_;refine bsl (λw=>Jwg (.slice (some ⟨b3,0,none⟩) 0 0) w _ _ _ rfl) ?_;intro w4 b4 bh d7 cn;have bn:=(c7.trans bi).trans bh;have bm:=bi.trans bh;have h0:RowsV w4 (.slice (some ⟨b4,0,none⟩) 1 1) (Xq m vars rs (List.range N) 0):=⟨[(.slice (some ⟨b3,0,none⟩) 0 0,[])],_,_,rfl,rfl,by simp,by simp,cn.rd (n:=1) rfl,λp hp=>by
  rw [List.mem_singleton.1 hp];exact ⟨_,_,rfl,by simp,by simp,Rd.nil⟩⟩
 refine ρ ?_;refine Ja (fun (i:Nat) (ov:Value)=>[(2,.pointer (some ⟨b,0,none⟩)),(5,.slice LA N lc),(6,ov),(7,.int .i64 (i:Int))])
  (λi ov w'=>i<=N/\Ext w4 w'/\RowsV w' ov (Xq m vars rs (List.range N) i)) (λi _=>N-i) 0 (.slice (some ⟨b4,0,none⟩) 1 1) sB ⟨Nat.zero_le _,Ext.refl _,h0⟩ ?_
 clear h0;rintro i ov w5 ⟨hi,b1,b7⟩;have J:=bn.trans b1;have ao:=bm.trans b1;have c0:=hB.ext J;refine ρ ?_;refine ci (λh=>?_) (λh=>?_)
 .have li:i<N:=by have:=oT h;omega
  clear h;have br:=Jhg hP hi;have ag:=Jhg hP (show i+1<=N by omega);have ak:Ext w5 w5.drew:=(Ext.refl w5).drew;have bw:=bb.ext (ao.trans ak);have ba:(Jt (nz (List.range N)))[i]?=some (.int .i64 (i:Int)):=by
   have:=Xn (cs:=List.range N) (show i<(List.range N).length by simpa using li);rwa [Ir li]at this
  refine ρ ?_;refine dr [(0,0),(0,1),(0,2),(0,3),(0,4),(1,5),(0,6)] kr ?_;refine ρd ?_;refine Qz (cs:=Vw n f pA pn pc VA vc RA rc m) (λj u hu=>(c0.ext ak).at hu) ?_;refine ρd ?_;refine dix i bw li ?_;refine ρd ?_;refine dld (bw.cell ba) ?_;refine ρd ?_;refine dcl (Qdd hP (hM.ext (a8.trans (J.trans ak))) i) ?_;rintro xv w6 ⟨⟨c6,d1⟩,a4⟩;refine ⟨a4,?_⟩;have a6:=ak.trans a4;obtain ⟨OA,oc,rfl,d5,d4,cx,cm,ck⟩:=id (b7.ext a6).parts;obtain ⟨XA,xc,rfl,d2,d0,cj⟩:=id c6;refine ρd ?_;refine ρ ?_;refine Ja (fun (k:Nat) (nv:Value)=>[(2,.pointer (some ⟨b,0,none⟩)),(5,.slice LA N lc),(6,.slice OA (Xq m vars rs (List.range N) i).length oc),(7,.int .i64 (i:Int)),(8,nv),(9,.slice XA (Xz m vars rs i).length xc),(10,.int .i64 (k:Int))])
   (λk nv w'=>k<=(Xq m vars rs (List.range N) i).length/\Ext w6 w'/\OwnR w' w6.heap.size nv (((Xq m vars rs (List.range N) i).take k).flatMap λr=>Yx m vars rs (List.range N) i r (Xz m vars rs i).length)) (λk _=>(Xq m vars rs (List.range N) i).length-k) 0 (.slice none 0 0) sB
   ⟨Nat.zero_le _,Ext.refl _,OwnR.nil _ _⟩ ?_
  rintro k nv w7 ⟨O,C,a1⟩;refine ρ ?_;refine ci (λh=>?_) (λh=>?_)
  .have lk:k<(Xq m vars rs (List.range N) i).length:=by have:=oT h;omega
   clear h;obtain ⟨r,hr⟩:∃ r,r=(Xq m vars rs (List.range N) i).getD k []:=⟨_,rfl⟩;have d3:r.length=i:=((Jbd hP.asc hP.len hP.cov i hi r).1 (by rw [hr];exact getD_mem' [] _ lk)).1;obtain ⟨yv,c5,be⟩:=ck k lk;rw [<-hr]at be;obtain ⟨YA,yc,rfl,cr,cq,ch⟩:=id be;have b5:Ig m vars rs (List.range N) i (Xq m vars rs (List.range N) i)=(Xq m vars rs (List.range N) i).flatMap λr=>Yx m vars rs (List.range N) i r (Xz m vars rs i).length:=by
    unfold Ig Yx;rw [Ir li,List.take_length]
   have Zp:∀ j,j<=(Xz m vars rs i).length->(((Xq m vars rs (List.range N) i).take k).flatMap (λr=>Yx m vars rs (List.range N) i r (Xz m vars rs i).length)++Yx m vars rs (List.range N) i r j).length<=5000:=λj hj=>by
    refine nL ?_ ag;rw [Xq,b5];conv=>rhs;rw [<-List.take_append_drop k (Xq m vars rs (List.range N) i),List.flatMap_append,List.length_append]
    rw [List.length_append];refine Nat.add_le_add_left ?_ _;have hd:(Xq m vars rs (List.range N) i).drop k=r::(Xq m vars rs (List.range N) i).drop (k+1):=by
     rw [hr];simp [List.getD,List.getElem?_eq_getElem lk]
    rw [hd,List.flatMap_cons,List.length_append];refine nL ?_ (Nat.le_add_right _ _);unfold Yx;refine List.Sublist.length_le (List.Sublist.filter _ (List.Sublist.map _ ?_));rw [Ir li,List.take_length];exact List.take_sublist _ _
   refine ρ ?_;refine Ja (fun (j:Nat) (nv:Value)=>[(2,.pointer (some ⟨b,0,none⟩)),(5,.slice LA N lc),(6,.slice OA (Xq m vars rs (List.range N) i).length oc),(7,.int .i64 (i:Int)),(8,nv),(9,.slice XA (Xz m vars rs i).length xc),(10,.int .i64 (k:Int)),(11,.int .i64 (j:Int))])
    (λj nv w'=>j<=(Xz m vars rs i).length/\Ext w6 w'/\OwnR w' w6.heap.size nv (((Xq m vars rs (List.range N) i).take k).flatMap (λr=>Yx m vars rs (List.range N) i r (Xz m vars rs i).length)++Yx m vars rs (List.range N) i r j)) (λj _=>(Xz m vars rs i).length-j) 0 nv sB
    ⟨Nat.zero_le _,C,by simpa [Yx] using a1⟩ ?_
   clear a1 nv C w7;rintro j nv w7 ⟨hj,C,a1⟩;refine ρ ?_;refine ci (λh=>?_) (λh=>?_)
   .have lj:j<(Xz m vars rs i).length:=by have:=oT h;omega
    clear h;obtain ⟨x,hx⟩:∃ x,x=(Xz m vars rs i).getD j V0:=⟨_,rfl⟩;have bo:Yx m vars rs (List.range N) i r (j+1)=Yx m vars rs (List.range N) i r j++if Yo m vars rs ((List.range N).take (i+1)) (r++[x])=true then [r++[x]] else []:=by
     unfold Yx;rw [Ir li,Qy V0 lj,List.map_append,List.filter_append,<-hx];congr 1
     by_cases hf:Yo m vars rs ((List.range N).take (i+1)) (r++[x])=true
     .rw [if_pos hf];exact List.filter_cons_of_pos hf
     .rw [if_neg hf];exact List.filter_cons_of_neg hf
    have ay:Ext w7 w7.drew:=(Ext.refl w7).drew;have a5:=C.trans ay;have ai:=Rd.ext ch a5;have au:=Rd.ext cj a5;have av:=cm.ext a5;have xt:∀ {W:World},GrN (λk=>w7.drew.heap.size<=k) w7.drew W->Ext w7.drew W:=λh=>h.old (Ext.refl _) λk O=>O;refine ρ ?_;refine drM (λk=>w7.drew.heap.size<=k) ?_;refine Ug (fuel':=5) [(0,1),(0,2),(0,3),(0,4),(0,6),(0,7),(0,8),(0,9)] #[false,true,true,true,true,false,true,true,true,true,false,false,false] kr kr rfl ?_;refine ρn ?_;refine nix k av lk ?_;refine ρn ?_;refine nld (λw' hg=>(av.ext (xt hg)).cell c5) ?_;refine ρn ?_;refine Vr 3 j au om ?_;refine ρn ?_;refine Xw (cs:=x.cells) (λw' hg q u hu=>RdR.cell (Rd.ext au (xt hg)) lj (by rw [<-hx];exact hu)) ?_;refine ρn ?_;refine Uh ?_;refine mcut 2 (lst 13 11) (fun (q:Value×Nat)=>[(46,q.1),(51,.slice (some ⟨q.2,0,none⟩) 1 1),(2,.pointer (some ⟨b,0,none⟩)),(5,.slice LA N lc),(6,.slice OA (Xq m vars rs (List.range N) i).length oc),(7,.int .i64 (i:Int)),(8,nv),(9,.slice XA (Xz m vars rs i).length xc),(10,.int .i64 (k:Int)),(11,.int .i64 (j:Int))])
     (λq W=>Ext w7.drew W/\W.ownsRow w7.drew.heap.size 47 3 q.1 r.length (Jd r)/\Blk W q.2 47 x.cells) ?_ ?_
    .rintro ⟨a7,aa⟩ W ⟨bf,b8,bz⟩;simp only at b8 bz;refine Vs 11 kr rfl rfl ?_;refine apb (m':=1) (news:=x.cells) EV b8 (bz.rd (n:=1) rfl) (V.one _) (by unfold maxLen;omega) om bf.size ?_;intro cw W2 a9 b9 ca;obtain ⟨_,_,rfl,_,bt⟩:=Jv b8;have U:GrN (λk=>w7.drew.heap.size<=k) W W2:=GrN.by b9 λk O=>(bt k O).1
     have bj:=U.old bf λk O=>O;refine Jh (Xf U ?_);refine Ug (fuel':=0) [(0,12)] (lst 13 13) kr kr rfl ?_;refine ρn ?_;refine Uh ?_;refine mend kr ?_;have co:Jd r++x.cells=Jd (r++[x]):=by rw [rowC_app',rowC_one'']
     have c4:r.length+1=(r++[x]).length:=by simp
     rw [co,c4]at a9;obtain ⟨bd,bc,rfl,bu,bs⟩:=Jv a9;have c2:RowX W2 (own w6.heap.size nv) (.slice bd (r++[x]).length bc) (r++[x]):=by
      refine ⟨bd,bc,rfl,bu,by simp;omega,Rd.own a9,λ_ ad e O=>?_⟩;have h1:=(bs ad.block (by rw [e];simp [Value.ownBlock])).1;have h2:=a5.size;rcases O with O|O
      .omega
      .have:=(a1.lt _ O).2;have:=ay.size;omega
     have ax:Ext W2 W2.drew:=(Ext.refl W2).drew;have am:=(ay.trans bj).trans ax;have an:=C.trans am;have ap:=J.trans (a6.trans an);have b2:=ao.trans (a6.trans an);have c8:IntsV W2.drew (.slice LA (i+1) lc) (nz ((List.range N).take (i+1))):=by
      have hl:((List.range N).take (i+1)).length=i+1:=by rw [List.length_take,List.length_range];omega
      refine ⟨LA,lc,by rw [Qq,hl],by rw [Qq,hl];omega,by rw [Qq,hl];omega,?_⟩;have:=(bb.ext b2).take (m:=i+1) om;rw [Qq,hl];have e:(Jt (nz (List.range N))).take ((i+1)*1)=Jt (nz ((List.range N).take (i+1))):=by rw [Nat.mul_one];simp only [Jt,nz,List.map_take]
      rw [e]at this;exact this
     refine ρ ?_;refine drN (λ_=>False) 10 [(0,0),(0,1),(0,2),(0,3),(0,4),(0,5),(1,6)] kr ?_;refine ρn ?_;refine Xw (cs:=Vw n f pA pn pc VA vc RA rc m) (λw' hg j u hu=>((hB.ext ap).ext hg.toExt).at hu) ?_;refine ρn ?_;refine nslh (A:=LA) (m:=N) (c:=lc) (i+1) ?_ om;refine ρn ?_;refine nop ?_;refine cl (Jrc hP (hM.ext (a8.trans ap)) c8 (c2.v.ext ax) (λu hu=>by have:=List.mem_range.1 (List.mem_of_mem_take hu);omega) (by simp;omega)) ?_;rintro _ W3 ⟨rfl,ae⟩;refine ρ ?_;refine Js (GrN.ext ae) ?_;refine ρn ?_;have a3:=am.trans ae;have aq:=a1.ext a3;refine ρ ?_;refine ci (λhf=>?_) (λhf=>?_)
     .refine ρ ?_;refine bsl (λw=>Jwg (.slice bd (r++[x]).length bc) w _ _ _ rfl) ?_;intro W4 db ac cv c1;refine ρ ?_;refine appR (a:=w6) (C.trans (a3.trans ac)) ER (aq.ext ac) c1 ((((c2.ext ax).ext ae)).ext ac) (by have:=Zp j om;omega) ?_;intro c3 W5 bp bg _;refine ρ ?_;refine Jl (j+1) c3 sO ⟨lj,bg,?_⟩ om;rw [bo,if_pos hf,<-List.append_assoc];exact bp
     .refine ρ ?_;refine Jl (j+1) nv sO ⟨lj,C.trans a3,?_⟩ om;rw [bo,if_neg (by rw [hf];simp),List.append_nil];exact aq
    .intro rest;have ab:∀ {W:World} {g:Nat},Blk W g 47 ([]:List Value)->w7.drew.heap.size<=g->W.ownsRow w7.drew.heap.size 47 3 (.slice (some ⟨g,0,none⟩) 0 0) 0 []:=λhB hb=>hB.own (n:=0) hb rfl (Nat.zero_le _);refine Jxc 0 10 kr rfl rfl rfl ?_ ?_
     .refine ρ ?_;refine bsl Jjn ?_;intro W1 b0 o a2 aj;refine Jh (Xf (GrN.ext o) ?_);refine Jxc 5 10 kr rfl rfl rfl ?_ ?_
      .refine apb (m':=r.length) (news:=Jd r) EV (ab aj a2) (ai.ext o) (Jvj r) (by unfold maxLen;omega) om o.size ?_;intro a7 W2 a9 b9 ca;rw [Nat.zero_add,List.nil_append]at a9;have U:GrN (λk=>w7.drew.heap.size<=k) W1 W2:=GrN.by b9 λk O=>by simp [Value.ownBlock]at O;omega
       refine Jh (Xf U ?_);refine Vs 10 kr rfl rfl ?_;refine bsl (Jwf x) ?_;intro W3 aa aw ar Z;refine Jh (Xf (GrN.ext aw) ?_);refine Kq (listed':=lst 13 11) kr ?_;exact rest (a7,aa) _ _ ⟨(U.old o λk O=>O).trans aw,Jk a9 aw,Z⟩ sB
      .refine ρ ?_;refine bsl (Jwf x) ?_;intro W2 aa G ar Z;refine Jh (Xf (GrN.ext G) ?_);refine Vs 5 kr rfl rfl ?_;refine apb (m':=r.length) (news:=Jd r) EV (ab (aj.ext G) a2) (ai.ext (o.trans G)) (Jvj r) (by unfold maxLen;omega) om (o.trans G).size ?_;intro a7 W3 af ah c9;rw [Nat.zero_add,List.nil_append]at af;have U:GrN (λk=>w7.drew.heap.size<=k) W2 W3:=GrN.by ah λk O=>by simp [Value.ownBlock]at O;omega
       refine Jh (Xf U ?_);refine Kq (listed':=lst 13 11) kr ?_;refine rest (a7,aa) _ _ ⟨U.old (o.trans G) λk O=>O,af,Z.grown ah ?_⟩ sB;have:=aj.lt;simp [Value.ownBlock];omega
     .refine ρ ?_;refine bsl (Jwf x) ?_;intro W1 aa o ar Z;refine Jh (Xf (GrN.ext o) ?_);refine Vs 0 kr rfl rfl ?_;refine bsl Jjn ?_;intro W2 b0 G a2 aj;refine Jh (Xf (GrN.ext G) ?_);refine Vs 5 kr rfl rfl ?_;have bv:=nL o.size a2;refine apb (m':=r.length) (news:=Jd r) EV (ab aj bv) (ai.ext (o.trans G)) (Jvj r) (by unfold maxLen;omega) om (o.trans G).size ?_;intro a7 W3 af ah c9;rw [Nat.zero_add,List.nil_append]at af;have U:GrN (λk=>w7.drew.heap.size<=k) W2 W3:=GrN.by ah λk O=>by simp [Value.ownBlock]at O;omega
      refine Jh (Xf U ?_);refine Kq (listed':=lst 13 11) kr ?_;refine rest (a7,aa) _ _ ⟨U.old (o.trans G) λk O=>O,af,(Z.ext G).grown ah ?_⟩ sB;have:=Z.lt;simp [Value.ownBlock];omega
   .have ce:j=(Xz m vars rs i).length:=by have:=oF h;omega
    subst ce;clear h;refine ρ ?_;refine Jl (k+1) nv sO ⟨lk,C,?_⟩ om;rw [Qy [] lk,List.flatMap_append,<-hr];simpa using a1
  .have cd:k=(Xq m vars rs (List.range N) i).length:=by have:=oF h;omega
   subst cd;clear h;rw [List.take_length]at a1;refine ρ ?_;refine Jl (i+1) nv sO ⟨li,(b1.trans a6).trans C,?_⟩ om;have e:Xq m vars rs (List.range N) (i+1)=(Xq m vars rs (List.range N) i).flatMap λr=>Yx m vars rs (List.range N) i r (Xz m vars rs i).length:=by
    rw [Xq];unfold Ig Yx;rw [Ir li,List.take_length]
   rw [e]at ag ⊢;exact a1.rows om
 .have cg:i=N:=by have:=oF h;omega
  subst cg;clear h;have br:=Jhg hP (Nat.le_refl i);refine ρ ?_;refine ki 68 (λh=>?_) (λh=>?_)
  .have h0:i=0:=by have:=Xl h;omega
   clear h;refine ρ ?_;refine lds (cs:=Vw n f pA pn pc VA vc RA rc m) (λj u hu=>c0.at hu) ?_;refine ρ ?_;refine bsl Jjn ?_;intro w6 b6 a4 d6 d9;refine ρ ?_;refine cl (Jrc (vl:=[]) (r:=[]) hP (hM.ext (a8.trans (J.trans a4))) ⟨none,0,rfl,Nat.le_refl _,Nat.zero_le _,Rd.nil⟩ ⟨some ⟨b6,0,none⟩,0,rfl,Nat.le_refl _,Nat.zero_le _,Rd.nil⟩ (λu hu=>by cases hu) rfl) ?_;rintro _ w7 ⟨rfl,C⟩;refine ρ ?_;subst h0;refine ci (λhf=>?_) (λhf=>?_)
   .have a2:Yo m vars rs [] []=false:=by cases hh:Yo m vars rs [] []<;>first|rfl|(rw [hh]at hf;cases hf)
    refine ρ ?_;refine Jj ⟨?_,(a8.trans J).trans (a4.trans C)⟩;unfold Xh;rw [if_pos rfl,a2];exact ⟨[],none,0,rfl,rfl,Nat.le_refl _,Nat.zero_le _,Rd.nil,λp hp=>by cases hp⟩
   .have a2:Yo m vars rs [] []=true:=by cases hh:Yo m vars rs [] []<;>first|rfl|(rw [hh]at hf;cases hf)
    refine ρ ?_;refine Jj ⟨?_,(a8.trans J).trans (a4.trans C)⟩;unfold Xh;rw [if_pos rfl,if_pos a2];exact b7.ext (a4.trans C)
  .have h0:i≠0:=λe=>by have:=Xm h;omega
   clear h;refine ρ ?_;refine Jj ⟨?_,a8.trans J⟩;unfold Xh;rw [if_neg h0];exact b7
end
open Go.RowKit Pl Go.Wk
variable {ds:List Bool}{F N m:Nat}{dv:Value}
theorem Xjd(hN:N<=32): bk (2^N-1) 32=List.range N:=by
 have key:∀ k,bk (2^N-1) k=List.range (min k N):=by
  intro k;induction k with
  | zero=>rfl
  | succ k ih=>
   rw [Ut,ih,Nat.testBit_two_pow_sub_one];by_cases h:k<N
   .rw [if_pos (by simpa using h),Nat.min_eq_left om,Nat.min_eq_left om,List.range_succ]
   .rw [if_neg (by simpa using h),Nat.min_eq_right om,Nat.min_eq_right om,List.append_nil]
 rw [key,Nat.min_eq_right hN]
theorem Qlp{vars:Nat->List Nat}{rs:Nat->List Row}(hP:RefP N m vars rs){z:Row}(hz:z∈Xh m vars rs N): z.length=N:=((Jfp hP.asc hP.len hP.lt hP.cov z).1 hz).1
section
variable {pA VA RA:Option Addr} {pn pc vc rc N m:Nat} {f:Int} {vars:Nat->List Nat} {rs:Nat->List Row} {w:World}
theorem Qdg(hP:RefP N m vars rs)(hM:RInM w VA RA m vars rs)(hN:N<=31):
  Ret Tryz.prog 106 [.agg (Vw (N:Int) f pA pn pc VA vc RA rc m).toArray] w λu w'=>RowsV w' u (Xh m vars rs N)/\Ext w w':=by
 refine Jz Tryz.func106 Tryz.ntmps106 rfl kr rfl ?_;refine ρ ?_;refine bx (cs:=Vw (N:Int) f pA pn pc VA vc RA rc m) ?_;intro U b o Z J;refine ρ ?_;refine lds (cs:=Vw (N:Int) f pA pn pc VA vc RA rc m) (λj u G=>J.at G) ?_;refine ρ ?_;refine ld (J.at (i:=0) rfl) ?_;refine ρ ?_;refine Go.Wk.kv 6 (congrArg (λz=>Value.int .u64 z) (Uv (z:=(N:Int)) om)) ?_;refine Jnm (v:=N) om ?_;refine ρ ?_;have h1:1<=2^N:=Nat.pow_pos (by decide);have h2:=Gt (show N<32 by omega);have e:IntKind.u32.wrap (((2^N:Nat):Int)-1)=((2^N-1:Nat):Int):=by rw [IntKind.wrap_u32];omega
 refine Go.Wk.kv 8 (congrArg (λz=>Value.int .u32 z) e) ?_;refine cl (Qdh hP (hM.ext o) om (Xjd om)) ?_;rintro u O ⟨G,C⟩;refine ρ ?_;exact Jj ⟨G,o.trans C⟩
theorem Qdk(hP:RefP N m vars rs)(hM:RInM w VA RA m vars rs)(hN:N<=31)(hF:F<=N)(hd:BoolsV w dv ds):
  Ret Tryz.prog 60 [.agg (Vw (N:Int) (F:Int) pA pn pc VA vc RA rc m).toArray,dv] w λu w'=>RowsV w' u (Jwl m vars rs N F ds)/\Ext w w'/\Fresh w u:=by
 have an:(Xh m vars rs N).length<=5000:=nL (Jtg hP.asc hP.len hP.cov) hP.cnt;refine Jz Tryz.func60 Tryz.ntmps60 rfl kr rfl ?_;refine ρ ?_;refine bx (cs:=Vw (N:Int) (F:Int) pA pn pc VA vc RA rc m) ?_;intro w1 b J hb hB;refine ρ ?_;refine lds (cs:=Vw (N:Int) (F:Int) pA pn pc VA vc RA rc m) (λj u hu=>hB.at hu) ?_;refine ρ ?_;refine cl (Qdg hP (hM.ext J) hN) ?_;rintro jv w2 ⟨hj,a3⟩;obtain ⟨JA,jc,rfl,ao,am,ai,ac,ab⟩:=hj.parts;refine ρ ?_;refine Ja (fun (i:Nat) (Z:Value)=>[(1,dv),(2,.pointer (some ⟨b,0,none⟩)),(5,Z),(6,.slice JA (Xh m vars rs N).length jc),(7,.int .i64 (i:Int))])
  (λi Z w'=>i<=(Xh m vars rs N).length/\Ext w2 w'/\Fresh w2 Z/\RowsV w' Z ((((Xh m vars rs N).take i).map (List.take F)).foldl (Zw ds) [])/\((((Xh m vars rs N).take i).map (List.take F)).foldl (Zw ds) []).length<=i) (λi _=>(Xh m vars rs N).length-i) 0 (.slice none 0 0) sB
  ⟨Nat.zero_le _,Ext.refl _,(λad n c e=>by cases e),⟨[],none,0,rfl,rfl,Nat.le_refl _,Nat.zero_le _,Rd.nil,λp hp=>by cases hp⟩,Nat.le_refl _⟩ ?_
 rintro i Z w3 ⟨hi,C,O,U,ak⟩;have G:=a3.trans C;refine ρ ?_;refine ci (λh=>?_) (λh=>?_)
 .have li:i<(Xh m vars rs N).length:=by have:=oT h;omega
  clear h;obtain ⟨xv,a7,a1⟩:=ab i li;obtain ⟨z,hz⟩:∃ z,z=(Xh m vars rs N).getD i []:=⟨_,rfl⟩;have aj:z.length=N:=Qlp hP (by rw [hz];exact getD_mem' [] _ li);rw [<-hz]at a1;obtain ⟨XA,xc,rfl,ah,ag,aa⟩:=id a1;have o:Ext w3 w3.drew:=(Ext.refl w3).drew;have a4:=Jkn (ds:=ds) (((Xh m vars rs N).take i).map (List.take F)) (done:=[]) (l:=[]) ⟨List.Pairwise.nil,λx=>Iff.rfl⟩;refine ρ ?_;refine drN (λ_=>False) 10 [(0,0),(0,1),(0,2),(0,3),(0,4),(0,5),(0,6),(0,7),(0,8),(1,9),(0,10)] kr ?_;have a5:=ac.ext (C.trans o);have ae:=(hB.ext G).ext o;refine ρn ?_;refine nix i a5 li ?_;refine ρn ?_;refine nld (λw' hg=>(a5.ext hg.toExt).cell a7) ?_;refine ρn ?_;refine nld (Jm (ae.at (i:=1) rfl) (λe=>e)) ?_;refine ρn ?_;refine nslh (A:=XA) (m:=z.length) (c:=xc) F ?_ om;refine ρn ?_;refine nop ?_;have a8:RowV w3.drew (.slice XA F xc) (z.take F):=by
   have hl:(z.take F).length=F:=by rw [List.length_take];omega
   refine ⟨XA,xc,by rw [hl],by rw [hl];omega,by rw [hl];omega,?_⟩;have:=(Rd.ext aa (C.trans o)).take (m:=F) om;rw [Jpm z om]at this;unfold RdR;rw [hl];exact this
  refine cl (Jpq (U.ext o) a8 (hd.ext ((J.trans G).trans o)) a4.1 om) ?_;rintro a6 w4 ⟨h4,a2,af⟩;refine ρ ?_;refine Js (GrN.ext a2) ?_;refine ρn ?_;have e:(((Xh m vars rs N).take (i+1)).map (List.take F)).foldl (Zw ds) []=Zw ds ((((Xh m vars rs N).take i).map (List.take F)).foldl (Zw ds) []) (z.take F):=by
   rw [Qy [] li,<-hz,List.map_append,List.foldl_append];rfl
  refine ρ ?_;refine Jl (i+1) a6 sO ⟨li,(C.trans o).trans a2,?_,by rw [e];exact h4,?_⟩ om
  .rcases af with h'|h'
   .rw [h'];exact O
   .exact λad n c e=>nL (C.trans o).size (h' ad n c e)
  rw [e];have:=Qdt ds ((((Xh m vars rs N).take i).map (List.take F)).foldl (Zw ds) []) (z.take F);omega
 .have a9:i=(Xh m vars rs N).length:=by have:=oF h;omega
  rw [a9,List.take_length]at U;refine ρ ?_;exact Jj ⟨U,J.trans G,λad n c e=>nL (J.trans a3).size (O ad n c e)⟩
theorem Qdj(hP:RefP N m vars rs)(hM:RInM w VA RA m vars rs)(hN:N<=31)(hF:F<=N)(hd:BoolsV w dv ds):
  Ret Tryz.prog 60 [.agg (Vw (N:Int) (F:Int) pA pn pc VA vc RA rc m).toArray,dv] w λu w'=>RowsV w' u (Jwl m vars rs N F ds)/\Ext w w':=(Qdk hP hM hN hF hd).mono λu w' h=>⟨h.1,h.2.1⟩
end
open Go.RowKit Pl Go.Wk
def IntssV(w:World)(v:Value)(zss:List (List Int)): Prop:=∃ A c cs,v=.slice A zss.length c/\zss.length<=c/\zss.length<=1100000/\Rd w 1 A zss.length cs/\∀ i,i<zss.length->∃ u,cs[i]?=some u/\IntsV w u (zss.getD i [])
def RowssV(w:World)(v:Value)(rss:List (List Row)): Prop:=∃ A c cs,v=.slice A rss.length c/\rss.length<=c/\rss.length<=1100000/\Rd w 1 A rss.length cs/\∀ i,i<rss.length->∃ u,cs[i]?=some u/\RowsV w u (rss.getD i [])
theorem IntssV.ext{w w':World}{v:Value}{zss:List (List Int)}(h:IntssV w v zss)(hx:Ext w w'): IntssV w' v zss:=by
 obtain ⟨A,c,cs,U,O,J,G,C⟩:=h;exact ⟨A,c,cs,U,O,J,G.ext hx,λi hi=>by obtain ⟨u,e,o⟩:=C i hi;exact ⟨u,e,o.ext hx⟩⟩
theorem RowssV.ext{w w':World}{v:Value}{zss:List (List Row)}(h:RowssV w v zss)(hx:Ext w w'): RowssV w' v zss:=by
 obtain ⟨A,c,cs,U,O,J,G,C⟩:=h;exact ⟨A,c,cs,U,O,J,G.ext hx,λi hi=>by obtain ⟨u,e,o⟩:=C i hi;exact ⟨u,e,o.ext hx⟩⟩
structure Cse where
 n: Int
 f:Int
 ds:List Bool
 pm:List Int
 vs:List (List Int)
 rss:List (List Row)
def CseV(w:World)(cs:List Value)(c:Cse): Prop:=∃ dA dc pA pc vA vc rA rc,cs=[.int .i64 c.n,.int .i64 c.f,.slice dA c.ds.length dc,.slice pA c.pm.length pc,.slice vA c.vs.length vc,.slice rA c.rss.length rc] /\
 BoolsV w (.slice dA c.ds.length dc) c.ds/\IntsV w (.slice pA c.pm.length pc) c.pm/\IntssV w (.slice vA c.vs.length vc) c.vs/\RowssV w (.slice rA c.rss.length rc) c.rss/\(-9223372036854775808<=c.n/\c.n<=9223372036854775807)/\(-9223372036854775808<=c.f/\c.f<=9223372036854775807)
theorem CseV.ext{w w':World}{cs:List Value}{c:Cse}(h:CseV w cs c)(hx:Ext w w'): CseV w' cs c:=by
 obtain ⟨dA,dc,pA,pc,o,vc,u,rc,Z,U,O,J,G,C⟩:=h;exact ⟨dA,dc,pA,pc,o,vc,u,rc,Z,U.ext hx,O.ext hx,J.ext hx,G.ext hx,C⟩
structure FewP(c:Cse): Prop where
 row:∀ i,i<c.rss.length->(c.rss.getD i []).length<=10
 cnt:(Jf c.rss.length λi=>max 1 (c.rss.getD i []).length)<=5000
 n6:c.n<=6∨32<c.n
 v5:c.vs.length<=5
 r5:c.rss.length<=5
structure FewS(c:Cse): Prop where
 row:∀ i,i<c.rss.length->(c.rss.getD i []).length<=10
 cnt:(Jf c.rss.length λi=>max 1 (c.rss.getD i []).length)<=5000
 n6:c.n<=6
 v5:c.vs.length<=5
 r5:c.rss.length<=5
 v8:∀ i,i<c.vs.length->(c.vs.getD i []).length<=8
 d10:c.ds.length<=10
 p10:c.pm.length<=10
theorem Qnm{w:World}{cs:List Value}{c:Cse}(h:CseV w cs c): Ret Tryz.prog 59 [.agg cs.toArray] w λu w'=>Ext w w'/\∃ b:Bool,u=.bool b/\(b=true->FewP c)/\(FewS c->b=true):=by
 obtain ⟨dA,dc,pA,pc,vA,vc,rA,rc,rfl,hD,hP,hV,hR,hn,hf⟩:=h;obtain ⟨_,_,af,e1,_,_,a2,ad⟩:=id hR;injection e1 with e1 e2 e3
 subst e1;subst e3;obtain ⟨_,_,ae,e1,_,_,a6,ac⟩:=id hV;injection e1 with e1 e2 e3
 subst e1;subst e3;refine Jz Tryz.func59 Tryz.ntmps59 rfl kr rfl ?_;refine ρ ?_;refine bx ?_;intro w1 b C hb O;refine ρ ?_;refine Ja (fun (i:Nat) (o:Nat)=>[(1,.pointer (some ⟨b,0,none⟩)),(2,.bool false),(3,.int .i64 (o:Int)),(4,.int .i64 (i:Int))])
  (λi o w'=>i<=6/\i<=c.rss.length/\w'=w1/\o=(Jf i λi=>max 1 (c.rss.getD i []).length)/\o<=10^i/\∀ j,j<i->(c.rss.getD j []).length<=10) (λi _=>6-i) 0 1 sB ⟨om,Nat.zero_le _,rfl,rfl,by simp,λj hj=>om⟩ ?_
 rintro i o w2 ⟨h6,hi,rfl,J,a3,U⟩;refine ρ ?_;refine ld (O.at (i:=5) rfl) ?_;refine ρ ?_;refine Vl (fun (t:Bool)=>[(14,.bool t),(1,.pointer (some ⟨b,0,none⟩)),(2,.bool false),(3,.int .i64 (o:Int)),(4,.int .i64 (i:Int))]) (λt w3=>w3=w2/\(t=true↔i<c.rss.length/\i<6)) ?_ ?_
 .refine ki 11 (λh=>?_) (λh=>?_)
  .have:=oT h;refine ρ ?_;refine Jb (decide ((i:Int)<6)) sB ⟨rfl,?_⟩;rw [decide_eq_true_eq];omega
  .have:=oF h;refine ρ ?_;refine Jb false sB ⟨rfl,?_⟩;constructor
   .intro h;cases h
   .omega
 rintro t w3 ⟨rfl,ht⟩;refine ρ ?_;refine ci (λh=>?_) (λh=>?_)
 .obtain ⟨li,l6⟩:=ht.1 h;clear h;obtain ⟨ru,a5,aa⟩:=ad i li;obtain ⟨TA,tc,rfl,_,_,_⟩:=id (aa.ext C).parts;refine ρ ?_;refine ld (O.at (i:=5) rfl) ?_;refine ρ ?_;refine ix i (a2.ext C) li ?_;refine ρ ?_;refine ld ((a2.ext C).cell a5) ?_;refine ρ ?_;refine ci (λh=>?_) (λh=>?_)
  .refine ρ ?_;exact Jj ⟨C,false,rfl,λh=>(by cases h),λG=>by have h1:=G.row i li;have h2:=oT h;exact False.elim om⟩
  .have a7:(c.rss.getD i []).length<=10:=by have:=oF h;omega
   clear h;refine ρ ?_;refine ld (O.at (i:=5) rfl) ?_;refine ρ ?_;refine ix i (a2.ext C) li ?_;refine ρ ?_;refine ld ((a2.ext C).cell a5) ?_;refine ρ ?_;have ab:(if (1:Int)<((c.rss.getD i []).length:Int) then ((c.rss.getD i []).length:Int) else 1)=((max 1 (c.rss.getD i []).length:Nat):Int):=by
    split<;>omega
   have a4:o<=100000:=nL a3 (Nat.pow_le_pow_right (by decide) (show i<=5 by omega));have ag:o*max 1 (c.rss.getD i []).length<=o*10:=Nat.mul_le_mul_left _ om;have e:IntKind.i64.wrap ((o:Int)*(if (1:Int)<((c.rss.getD i []).length:Int) then ((c.rss.getD i []).length:Int) else 1))=((o*max 1 (c.rss.getD i []).length:Nat):Int):=by
    rw [ab,<-Int.natCast_mul];exact Yh om
   rw [e];refine Jl (i+1) (o*max 1 (c.rss.getD i []).length) sO ⟨om,om,rfl,?_,?_,λj hj=>?_⟩ om
   .rw [Jf,<-J]
   .rw [Nat.pow_succ];exact Nat.mul_le_mul a3 om
   .by_cases e:j=i
    .rw [e];exact a7
    .exact U j om
 have ah:¬ (i<c.rss.length/\i<6):=λh'=>by have:=ht.2 h';rw [h]at this;cases this
 clear h ht;refine ρ ?_;refine ci (λh=>?_) (λh=>?_)
 .refine ρ ?_;exact Jj ⟨C,false,rfl,λh=>(by cases h),λG=>by
   have h1:=G.cnt;have h2:=G.r5;have h3:=oT h;have h4:i=c.rss.length:=om
   rw [<-h4,<-J]at h1;exact False.elim om⟩
 have a4:o<=5000:=by have:=oF h;omega
 clear h;refine ρ ?_;refine Qd (fun (k:Nat)=>[(1,.pointer (some ⟨b,0,none⟩)),(2,.bool false),(5,.int .i64 (k:Int))])
  (λk w'=>k<=6/\k<=c.vs.length/\w'=w3) (λk=>6-k) 0 sB ⟨om,Nat.zero_le _,rfl⟩ ?_
 rintro k w4 ⟨k6,hk,rfl⟩;refine ρ ?_;refine ld (O.at (i:=4) rfl) ?_;refine ρ ?_;refine Vl (fun (t:Bool)=>[(43,.bool t),(1,.pointer (some ⟨b,0,none⟩)),(2,.bool false),(5,.int .i64 (k:Int))]) (λt w5=>w5=w4/\(t=true->k<c.vs.length/\k<6)) ?_ ?_
 .refine ki 40 (λh=>?_) (λh=>?_)
  .have:=oT h;refine ρ ?_;refine Jb (decide ((k:Int)<6)) sB ⟨rfl,?_⟩;rw [decide_eq_true_eq];omega
  .refine ρ ?_;exact Jb false sB ⟨rfl,λh=>by cases h⟩
 rintro t w5 ⟨rfl,ht⟩;refine ρ ?_;refine ci (λh=>?_) (λh=>?_)
 .obtain ⟨lk,l6⟩:=ht h;clear h;obtain ⟨vu,a8,a9⟩:=ac k lk;obtain ⟨QA,qc,rfl,_⟩:=id a9;refine ρ ?_;refine ld (O.at (i:=4) rfl) ?_;refine ρ ?_;refine ix k (a6.ext C) lk ?_;refine ρ ?_;refine ld ((a6.ext C).cell a8) ?_;refine ρ ?_;refine ci (λh=>?_) (λh=>?_)
  .refine ρ ?_;exact Jj ⟨C,false,rfl,λh=>(by cases h),λG=>by have h1:=G.v8 k lk;have h2:=oT h;exact False.elim om⟩
  .refine ρ ?_;exact Qw (k+1) sO ⟨om,om,rfl⟩ om
 clear h ht;refine ρ ?_;refine ld (O.at (i:=0) rfl) ?_;refine ρ ?_;refine ki 56 (λh=>?_) (λh=>?_)
 .have hN:c.n<=6:=oT h;clear h;refine ρ ?_;refine ld (O.at (i:=4) rfl) ?_;refine ρ ?_;refine ki 67 (λh4=>?_) (λh4=>?_)
  .refine ρ ?_;refine ld (O.at (i:=5) rfl) ?_;refine ρ ?_;refine ki 73 (λh5=>?_) (λh5=>?_)
   .have r5:c.rss.length<=5:=by have:=oT h5;omega
    have v5:c.vs.length<=5:=by have:=oT h4;omega
    have ir:i=c.rss.length:=om
    have a1:FewP c:=⟨λj hj=>U j om,by rw [<-ir,<-J];exact a4,.inl hN,v5,r5⟩;refine ρ ?_;refine ld (O.at (i:=2) rfl) ?_;refine ρ ?_;refine ki 79 (λh6=>?_) (λh6=>?_)
    .refine ρ ?_;refine ld (O.at (i:=3) rfl) ?_;refine ρ ?_;exact Jj ⟨C,decide ((c.pm.length:Int)<=10),rfl,λ_=>a1,λG=>by have:=G.p10;exact decide_eq_true om⟩
    .refine ρ ?_;exact Jj ⟨C,false,rfl,λh=>(by cases h),λG=>by have h1:=G.d10;have h2:=oF h6;exact False.elim om⟩
   .refine ρ ?_;exact Jj ⟨C,false,rfl,λh=>(by cases h),λG=>by have h1:=G.r5;have h2:=oF h5;exact False.elim om⟩
  .refine ρ ?_;exact Jj ⟨C,false,rfl,λh=>(by cases h),λG=>by have h1:=G.v5;have h2:=oF h4;exact False.elim om⟩
 .have Z:¬ c.n<=6:=oF h;clear h;refine ρ ?_;refine ld (O.at (i:=0) rfl) ?_;refine ρ ?_;refine ki 61 (λh=>?_) (λh=>?_)
  .have hN:32<c.n:=oT h;clear h;refine ρ ?_;refine ld (O.at (i:=4) rfl) ?_;refine ρ ?_;refine ki 67 (λh4=>?_) (λh4=>?_)
   .refine ρ ?_;refine ld (O.at (i:=5) rfl) ?_;refine ρ ?_;refine ki 73 (λh5=>?_) (λh5=>?_)
    .have r5:c.rss.length<=5:=by have:=oT h5;omega
     have v5:c.vs.length<=5:=by have:=oT h4;omega
     have ir:i=c.rss.length:=om
     have a1:FewP c:=⟨λj hj=>U j om,by rw [<-ir,<-J];exact a4,.inr hN,v5,r5⟩;refine ρ ?_;refine ld (O.at (i:=2) rfl) ?_;refine ρ ?_;refine ki 79 (λh6=>?_) (λh6=>?_)
     .refine ρ ?_;refine ld (O.at (i:=3) rfl) ?_;refine ρ ?_;exact Jj ⟨C,decide ((c.pm.length:Int)<=10),rfl,λ_=>a1,λG=>absurd G.n6 Z⟩
     .refine ρ ?_;exact Jj ⟨C,false,rfl,λh=>(by cases h),λG=>absurd G.n6 Z⟩
    .refine ρ ?_;exact Jj ⟨C,false,rfl,λh=>(by cases h),λG=>absurd G.n6 Z⟩
   .refine ρ ?_;exact Jj ⟨C,false,rfl,λh=>(by cases h),λG=>absurd G.n6 Z⟩
  .refine ρ ?_;exact Jj ⟨C,false,rfl,λh=>(by cases h),λG=>absurd G.n6 Z⟩
end Go.Proofs.YtebcagekopgdhaaGreatDoor
namespace Go.Wk
open Go.RowKit
variable {b bytes d n t ty:Nat}
section
variable {α:Type} {E:TypeId} {sz base:Nat} {Φ:World->List Value->α->Prop} {N0:Nat->Prop} {w w':World} {v:Value} {ls:List α}
def OwnM(E:TypeId)(sz:Nat)(Φ:World->List Value->α->Prop)(N0:Nat->Prop)(w:World)(base:Nat)(v:Value)(ls:List α): Prop :=
 ∃ ps:List (List Value×α),ls=ps.map (·.2)/\w.ownsRow base E sz v ps.length (Qj ps)/\∀ p∈ps,p.1.length=sz/\Off (λk=>N0 k∨v.ownBlock=some k) w (λu=>Φ u p.1 p.2)
theorem OwnM.nil(w:World)(base:Nat): OwnM E sz Φ N0 w base (.slice none 0 0) []:=⟨[],rfl,Xo _ _ _ _,λp o=>by cases o⟩
theorem OwnM.gr(h:OwnM E sz Φ N0 w base v ls)(hg:GrN N0 w w')(hN:∀ g,v.ownBlock=some g->¬ N0 g): OwnM E sz Φ N0 w' base v ls:=by
 obtain ⟨ps,J,G,u⟩:=h;exact ⟨ps,J,Jr G hg hN,λp o=>⟨(u p o).1,(u p o).2.gr (hg.mono λk _ C=>.inl C)⟩⟩
theorem OwnM.ext(h:OwnM E sz Φ N0 w base v ls)(hx:Ext w w'): OwnM E sz Φ N0 w' base v ls:=by
 obtain ⟨ps,G,C,u⟩:=h;exact ⟨ps,G,Jk C hx,λp o=>⟨(u p o).1,(u p o).2.ext hx⟩⟩
theorem OwnM.form(h:OwnM E sz Φ N0 w base v ls): ∃ A c,v=.slice A ls.length c/\ls.length<=c/\∀ g,v.ownBlock=some g->base<=g/\g<w.heap.size:=by
 obtain ⟨ps,rfl,C,G⟩:=h;obtain ⟨A,c,rfl,u,o⟩:=Jv C;exact ⟨A,c,by simp,by simpa using u,o⟩
theorem OwnM.gv(h:OwnM E sz Φ N0 w base v ls)(hm:ls.length<=1100000): GV sz Φ w v ls:=by
 obtain ⟨ps,rfl,C,u⟩:=h;obtain ⟨A,c,rfl,G,J⟩:=Jv C;exact ⟨ps,A,c,rfl,rfl,G,by simpa using hm,Rd.own C,λp o=>⟨(u p o).1,(u p o).2.here⟩⟩
theorem apM{P:Program}{al:AL}{Q:Exit->Act->World->Prop}{ops:Array Oper}{rest:List Oper}{pos:String}{aft:Array Edge}{z:Value}(hE:ElT P t E sz bytes z){x y:Operand}{cs:List Value}{a:α}(ho:OwnM E sz Φ N0 w base v ls)(hb:Blk w b E cs)(hl:cs.length=sz)(h1:∀ u∈cs,u.oneCell'=true)(hΦ:Off (λk=>N0 k∨v.ownBlock=some k) w (λu=>Φ u cs a))(hm:ls.length<=1100000)(hby:bytes<=64)(hbase:base<=w.heap.size)(kk:∀ v' w',OwnM E sz Φ N0 w' base v' (ls++[a])->w.grownBy w' v.ownBlock->(∀ g,v'.ownBlock=some g->v.ownBlock=some g∨w.heap.size<=g)->WL P n ops Q rest ((d,v')::al) w')(hx:ev al x=some v:=by rfl)(hy:ev al y=some (.slice (some ⟨b,0,none⟩) 1 1):=by rfl)(hd:Nat.blt d n=true:=by rfl):
  WL P n ops Q (⟨some d,.call { callee:=.builtin .append,args:=#[x,y],argTypes:=#[t,t] },ty,pos,aft,none⟩::rest) al w:=by
 obtain ⟨ps,e,hr,hp⟩:=ho;have a1:ps.length<=1100000:=by rw [e,List.length_map]at hm;exact hm
 have a2:(ps.length+1)*bytes<=1100001*64:=Nat.mul_le_mul om hby;refine apb hE hr (hb.rd (n:=1) om) h1 (by unfold maxLen;omega) om hbase ?_ hx hy hd;intro v' w' Z O J;have C:∀ {Ψ:World->Prop},Off (λk=>N0 k∨v.ownBlock=some k) w Ψ->Off (λk=>N0 k∨v'.ownBlock=some k) w' Ψ:=fun {Ψ} h W hW=>by
  refine h W ?_;have h1:GrN (λk=>(N0 k∨v.ownBlock=some k)∨w.heap.size<=k) w W:=(GrN.by O λk G=>.inl (.inr G)).trans (hW.mono λk _ G=>by
   rcases G with G|G
   .exact .inl (.inl G)
   .rcases J k G with o|o
    .exact .inl (.inr o)
    .exact .inr o)
  exact h1.mono λk G h=>h.elim id λo=>by omega
 refine kk v' w' ⟨ps++[(cs,a)],by rw [e];simp,?_,λp U=>?_⟩ O J
 .have e2:Qj (ps++[(cs,a)])=Qj ps++cs:=by simp [Qj]
  rw [List.length_append,e2];exact Z
 .rcases List.mem_append.1 U with o|o
  .exact ⟨(hp p o).1,C (hp p o).2⟩
  .rw [List.mem_singleton.1 o];exact ⟨hl,C hΦ⟩
end
end Go.Wk
namespace Go.Proofs.YtebcagekopgdhaaGreatDoor
open Go.RowKit Pl Go.Wk
attribute [local irreducible] WC WL QX WD WDB WP WN WG WH WM
variable {w w0:World}
theorem zRin: Qu Tryz.prog 119=some (.agg #[.int .i64 0,.int .i64 0,.slice none 0 0,.slice none 0 0,.slice none 0 0]):=kr
theorem Qtf(n f:Int)(A B C:Option Addr)(a a' b b' c c':Nat)(w:World): (Instr.build 119 #[(0,.int .i64 n),(1,.int .i64 f),(2,.slice A a a'),(3,.slice B b b'),(4,.slice C c c')]).run Tryz.prog w=.ok (.agg #[.int .i64 n,.int .i64 f,.slice A a a',.slice B b b',.slice C c c']) w:=kr
theorem Jjv: Qu Tryz.prog 92=some (.agg #[.int .i64 0,.int .i64 0,.slice none 0 0,.slice none 0 0,.slice none 0 0]):=kr
theorem Qtl(n f:Int)(A B:Option Addr)(a a' b b':Nat)(w:World): (Instr.build 92 #[(0,.int .i64 n),(1,.int .i64 f),(2,.slice A a a'),(3,.slice B b b')]).run Tryz.prog w=.ok (.agg #[.int .i64 n,.int .i64 f,.slice A a a',.slice B b b',.slice none 0 0]) w:=kr
theorem Qcx{n f:Int}{dA pA vA rA:Option Addr}{d dc p pc v vc r rc:Nat}:
  Ret Tryz.prog 61 [.agg #[.int .i64 n,.int .i64 f,.slice dA d dc,.slice pA p pc,.slice vA v vc,.slice rA r rc]] w λu w'=>u=.agg #[.int .i64 n,.int .i64 f,.slice pA p pc,.slice vA v vc,.slice rA r rc]/\Ext w w':=by
 refine Jz Tryz.func61 Tryz.ntmps61 rfl kr rfl ?_;refine ρ ?_;refine bx ?_;intro w1 b G hb hB;refine ρ ?_;refine alc zRin ?_;intro w2 b2 C O Z;have o:=hB.ext C;refine ρ ?_;refine ld (o.at (i:=0) rfl) ?_;refine ρ ?_;refine ld (o.at (i:=1) rfl) ?_;refine ρ ?_;refine ld (o.at (i:=3) rfl) ?_;refine ρ ?_;refine ld (o.at (i:=4) rfl) ?_;refine ρ ?_;refine ld (o.at (i:=5) rfl) ?_;refine ρ ?_;refine bld (Qtf _ _ _ _ _ _ _ _ _ _ _ _) ?_;refine ρ ?_;refine stW Z ?_;intro w3 U a1 J;refine ρ ?_;exact Jjl U ⟨rfl,J w (G.trans C) (nL G.size O)⟩
structure MkA(a:Atm)(zs:List Int)(rows:List Row): Prop where
 vars:a.vars=zs
 ar:a.ar=zs.length
 l32:zs.length<=32
 ok:∀ r∈rows,r.length=zs.length/\r.all Qa=true
 len:a.rows.length<=65536
 sub:∀ x∈a.rows,x∈rows
 set:rows.length<=1000->Zz [] rows a.rows
structure MkS(c:Cse): Prop where
 len:c.vs.length=c.rss.length
 l32:∀ i,i<c.vs.length->(c.vs.getD i []).length<=32
 ok:∀ i,i<c.vs.length->∀ r∈c.rss.getD i [],r.length=(c.vs.getD i []).length/\r.all Qa=true
 row:∀ i,i<c.vs.length->(c.rss.getD i []).length<=65536
set_option maxRecDepth 100000 in
set_option maxHeartbeats 4000000 in
theorem Qhn{cs : List Value}{c : Cse}(h : CseV w0 cs c)(h00 : Ext w0 w): Ret Tryz.prog 105 [.agg cs.toArray] w fun u w' => Ext w w' ∧ ∃ (dA pA aA : Option Addr) (dc pc ac an : Nat) (ok : Bool), u = .tuple #[.agg #[.int .i64 c.n, .int .i64 c.f, .slice dA c.ds.length dc, .slice pA c.pm.length pc, .slice aA an ac], .bool ok] ∧
      BoolsV w0 (.slice dA c.ds.length dc) c.ds ∧ IntsV w0 (.slice pA c.pm.length pc) c.pm ∧ (ok = true → c.vs.length = c.rss.length ∧ ∃ ats : List Atm, ats.length = c.vs.length ∧ Off (fun k => w0.heap.size ≤ k ∧ k < w.heap.size) w' (fun u => GV 3 AtG u (.slice aA an ac) ats) ∧ ∀ i, i < c.vs.length → MkA (ats.getD i a0) (c.vs.getD i []) (c.rss.getD i [])) ∧ (MkS c → ok = true) := by
  obtain ⟨dA, dc, pA, pc, vA, vc, rA, rc, rfl, hD, hP, hV0, hR, hn, hf⟩ := h
  have hV := hV0
  obtain ⟨_, _, rcs, e1, _, hrm, hRR0, hRe0⟩ := id hR
  injection e1 with e1 e2 e3
  subst e1; subst e3
  obtain ⟨_, _, vcs, e1, _, hvm, hVR0, hVe⟩ := id hV
  injection e1 with e1 e2 e3
  subst e1; subst e3
  have hRR := hRR0.ext h00
  have hVR := hVR0.ext h00
  have hRe : ∀ i, i < c.rss.length → ∃ u, rcs[i]? = some u ∧ RowsV w u (c.rss.getD i []) := fun i hi => by obtain ⟨u, e, hu⟩ := hRe0 i hi; exact ⟨u, e, hu.ext h00⟩
  refine Jz Tryz.func105 Tryz.ntmps105 rfl kr rfl ?_
  refine ρ ?_
  refine bx ?_
  intro w1 b hx1 hb hB
  refine ρ ?_
  refine alc Jjv ?_
  intro w2 b2 hx2 hb2 hB2
  have hB' := hB.ext hx2
  refine ρ ?_
  refine ld (hB'.at (i := 0) rfl) ?_
  refine ρ ?_
  refine ld (hB'.at (i := 1) rfl) ?_
  refine ρ ?_
  refine ld (hB'.at (i := 2) rfl) ?_
  refine ρ ?_
  refine ld (hB'.at (i := 3) rfl) ?_
  refine ρ ?_
  refine bld (Qtl _ _ _ _ _ _ _ _ _) ?_
  refine ρ ?_
  refine alc Jjv ?_
  intro w3 b4 hx3 hb4 hB4
  refine ρ ?_
  refine stW hB4 ?_
  intro w4 hB44 hg4 hx4
  have hx24 : Ext w2 w4 := hx4 w2 hx3 hb4
  have hxw4 := (hx1.trans hx2).trans hx24
  have hb14 : ¬ b = b4 := fun e => by have := hB'.lt; omega
  have hb24 : ¬ b2 = b4 := fun e => by have := hB2.lt; omega
  have hB04 := hB'.ext hx24
  have hB24 := hB2.ext hx24
  refine ρ ?_
  refine Ja (fun (i : Nat) (av : Value) => [(1, .pointer (some ⟨b, 0, none⟩)), (2, .pointer (some ⟨b2, 0, none⟩)), (3, .bool false), (4, .pointer (some ⟨b4, 0, none⟩)), (5, .int .i64 (i : Int))])
    (fun i av w' => i ≤ c.vs.length ∧ i ≤ c.rss.length ∧ GrN (fun k => k = b4) w4 w' ∧ Blk w' b4 92 [.int .i64 c.n, .int .i64 c.f, .slice dA c.ds.length dc, .slice pA c.pm.length pc, av] ∧ ∃ ats : List Atm, ats.length = i ∧ OwnM 99 3 AtG (fun k => (k = b2 ∨ k = b4) ∨ (w0.heap.size ≤ k ∧ k < w.heap.size)) w' w4.heap.size av ats ∧ ∀ j, j < i → MkA (ats.getD j a0) (c.vs.getD j []) (c.rss.getD j [])) (fun i _ => c.vs.length - i) 0 (.slice none 0 0) sB
    ⟨Nat.zero_le _, Nat.zero_le _, GrN.refl _ _, hB44, [], rfl, OwnM.nil _ _, fun j hj => by omega⟩ ?_
  rintro i av w5 ⟨hiv, hir, hg5, hB45, ats, hal, hG5, hmk⟩
  have hB05 := Jc hB04 hg5 hb14
  have hB25 := Jc hB24 hg5 hb24
  have hx5 : Ext w w5 := hg5.old hxw4 fun k hk => by rw [hk]; have := (hx1.trans hx2).size; omega
  refine ρ ?_
  refine ld (hB05.at (i := 4) rfl) ?_
  refine ρ ?_
  refine Vl (fun (t : Bool) => [(28, .bool t), (1, .pointer (some ⟨b, 0, none⟩)), (2, .pointer (some ⟨b2, 0, none⟩)), (3, .bool false), (4, .pointer (some ⟨b4, 0, none⟩)), (5, .int .i64 (i : Int))]) (fun t w6 => w6 = w5 ∧ (t = true ↔ i < c.vs.length ∧ i < c.rss.length)) ?_ ?_
  . refine ki 22 (fun h => ?_) (fun h => ?_)
    . have := oT h
      refine ρ ?_
      refine ld (hB05.at (i := 5) rfl) ?_
      refine ρ ?_
      refine Jb (decide ((i : Int) < (c.rss.length : Int))) sB ⟨rfl, ?_⟩
      rw [decide_eq_true_eq]; omega
    . have := oF h
      refine ρ ?_
      refine Jb false sB ⟨rfl, ?_⟩
      constructor
      . intro h; cases h
      . omega
  rintro t w6 ⟨rfl, ht⟩
  refine ρ ?_
  refine ci (fun h => ?_) (fun h => ?_)
  . obtain ⟨lv, lr⟩ := ht.1 h
    clear h
    obtain ⟨vu, hvc, hvV⟩ := hVe i lv
    obtain ⟨ru, hrc, hrV⟩ := hRe i lr
    obtain ⟨QA, qc, rfl, hqc, hqm, hqR⟩ := id hvV
    have hxd : Ext w6 w6.drew := (Ext.refl w6).drew
    have hx0d := hx5.trans hxd
    have hBd := hB05.ext hxd
    have hVd := hVR.ext hx0d
    have hRd := hRR.ext hx0d
    obtain ⟨TA, tc, rfl, _, _, _⟩ := id (hrV.ext hx0d).parts
    refine ρ ?_
    refine drH (fun i => Nat.ble 16 i) ?_
    refine Zp (fuel' := 7) 8 [(0, 0), (0, 1), (0, 2), (0, 3), (0, 4), (0, 5), (0, 6), (0, 7), (0, 8), (0, 9), (0, 10)] (lst 18 11) kr kr rfl ?_
    refine ρd ?_
    refine dld (hBd.at (i := 4) rfl) ?_
    refine ρd ?_
    refine dix i hVd lv ?_
    refine ρd ?_
    refine dld (hVd.cell hvc) ?_
    refine ρd ?_
    refine dld (hBd.at (i := 5) rfl) ?_
    refine ρd ?_
    refine dix i hRd lr ?_
    refine ρd ?_
    refine dld (hRd.cell hrc) ?_
    refine ρd ?_
    refine Xv ?_
    refine hcut 2 (lst 18 16) (fun (q : Value × Int × Nat) => [(44, q.1), (45, .int .i64 q.2.1), (6, .pointer (some ⟨q.2.2, 0, none⟩)), (1, .pointer (some ⟨b, 0, none⟩)), (2, .pointer (some ⟨b2, 0, none⟩)), (3, .bool false), (4, .pointer (some ⟨b4, 0, none⟩)), (5, .int .i64 (i : Int))])
      (fun q W => Ext w6.drew W ∧ Blk W q.2.2 95 [.int .i64 0, .slice none 0 0] ∧ w6.drew.heap.size ≤ q.2.2 ∧ (∃ z B m d, q.1 = .agg #[.int .i64 z, .slice B m d]) ∧ ((c.vs.getD i []).length ≤ 32 → (∀ r ∈ c.rss.getD i [], r.length = (c.vs.getD i []).length ∧ r.all Qa = true) → (c.rss.getD i []).length ≤ 65536 → q.2.1 = 0) ∧
        (q.2.1 = 0 → (c.vs.getD i []).length ≤ 32 ∧ (∀ r ∈ c.rss.getD i [], r.length = (c.vs.getD i []).length ∧ r.all Qa = true) ∧ ∃ m, Off (fun k => k < w6.drew.heap.size ∨ k = q.2.2) W (fun u => RelV u q.1 (c.vs.getD i []).length m) ∧ m.length ≤ 65536 ∧ (∀ x ∈ m, x ∈ c.rss.getD i []) ∧ (((c.rss.getD i []).length ≤ 1000 ∨ Srt [] (c.rss.getD i [])) → Zz [] (c.rss.getD i []) m))) ?_ ?_
    . rintro ⟨rv, e, b6⟩ W ⟨hxW, hBW, hbW, ⟨z, B, mm, dd, erv⟩, hsuf, hrel⟩
      simp only at hBW hbW hsuf hrel erv
      subst erv
      refine Zp (fuel' := 0) 8 [(2, 16), (2, 17)] (lst 18 18) kr kr rfl ?_
      refine Jo ?_
      refine stb (cs' := [.int .i64 z, .slice B mm dd]) hBW ?_ Vp
      intro W2 hBW2 hgW2 hxW2
      refine Jh (Qp ?_)
      refine Jo ?_
      refine ρ ?_
      refine Qp ?_
      refine Vx (Xv ?_)
      refine hend kr ?_
      have hx6W2 : Ext w6 W2 := hxW2 w6 (hxd.trans hxW) (nL hxd.size hbW)
      have hgW2' : GrN (fun k => k = b6) W W2 := GrN.by hgW2 fun k hk => by injection hk with hk; exact hk.symm
      have hB4W := hB45.ext hx6W2
      refine ρ ?_
      refine ci (fun h => ?_) (fun h => ?_)
      . refine ρ ?_
        refine ldW hB4W ?_
        obtain ⟨AA, ac, eav, _, _⟩ := hG5.form
        subst eav
        refine ρ ?_
        refine stW (hB25.ext hx6W2) ?_
        intro W3 hB3 hg3 hx3'
        have hxf : Ext w W3 := hx3' w (hx5.trans hx6W2) (nL hx1.size hb2)
        refine ρ ?_
        exact Zf hB3 ⟨hxf, dA, pA, AA, dc, pc, ac, ats.length, false, rfl, hD, hP, fun h => (by cases h), fun hS => absurd (hsuf (hS.l32 i lv) (hS.ok i lv) (hS.row i lv)) (Gu h)⟩
      . have he : e = 0 := Kj h
        clear h
        obtain ⟨hv32, hrok, m, hoff, hm6, hmsub, hmset⟩ := hrel he
        have hoff2 := hoff.gr (hgW2'.mono fun k _ hk => (.inr hk : k < w6.drew.heap.size ∨ k = b6))
        obtain ⟨AA, ac, eav, hacl, hal2⟩ := hG5.form
        subst eav
        have hlo : ∀ g, (Value.slice AA ats.length ac).ownBlock = some g → w4.heap.size ≤ g := fun g e => (hal2 g e).1
        have hxe : Ext W2 W2.drew := (Ext.refl W2).drew
        have hB4e := hB4W.ext hxe
        have hGe := (hG5.ext hx6W2).ext hxe
        have hx0e : Ext w W2.drew := (hx5.trans hx6W2).trans hxe
        have hBe := (hB05.ext hx6W2).ext hxe
        have hB6e := hBW2.ext hxe
        obtain ⟨ps0, _, hown0, _⟩ := id hGe
        have n4 : ¬ (Value.slice AA ats.length ac).ownBlock = some b4 := fun e => by have := hlo b4 e; have := hB44.lt; omega
        have n1 : ¬ (Value.slice AA ats.length ac).ownBlock = some b := fun e => by have := hlo b e; have := hB04.lt; omega
        have n6 : ¬ (Value.slice AA ats.length ac).ownBlock = some b6 := fun e => by have := (hal2 b6 e).2; have := hxd.size; omega
        have hNx : ∀ {W'}, GrN (fun k => (Value.slice AA ats.length ac).ownBlock = some k) W2.drew W' → Ext w W' := fun hg => hg.old hx0e fun k hk => by have := hlo k hk; have := hxw4.size; omega
        refine ρ ?_
        refine drN (fun k => (Value.slice AA ats.length ac).ownBlock = some k) 10 [(0, 0), (0, 1), (0, 2), (0, 3), (0, 4), (0, 5), (0, 6), (0, 7), (0, 8), (1, 9), (1, 10), (0, 11), (2, 12)] kr ?_
        refine ρn ?_
        refine nld (Jm (hB4e.at (i := 4) rfl) n4) ?_
        refine ρn ?_
        refine nld (Jm (hBe.at (i := 4) rfl) n1) ?_
        refine ρn ?_
        refine nix i (hVR.ext hx0e) lv ?_
        refine ρn ?_
        refine nld (fun w' hg => (hVR.ext (hNx hg)).cell hvc) ?_
        refine ρn ?_
        refine Xw (cs := [.int .i64 z, .slice B mm dd]) (fun w' hg j u hu => (Jc hB6e hg n6).at hu) ?_
        refine ρn ?_
        refine Jjc (fun w => Jhb _ _ _ _ _ _ _ w) ?_
        refine ρn ?_
        refine nop ?_
        refine bsl (fun w => Jbb _ _ _ QA B _ qc _ dd _ rfl rfl rfl w) ?_
        intro W3 b8 hx8 hb8 hB8
        refine ρ ?_
        refine Js (GrN.ext hx8) ?_
        refine nop ?_
        have hoff3 := (hoff2.ext hxe).ext hx8
        have hΦ : Off (fun k => ((k = b2 ∨ k = b4) ∨ (w0.heap.size ≤ k ∧ k < w.heap.size)) ∨ (Value.slice AA ats.length ac).ownBlock = some k) W3 (fun u => AtG u [.slice QA (c.vs.getD i []).length qc, .int .i64 z, .slice B mm dd] ⟨c.vs.getD i [], (c.vs.getD i []).length, m⟩) := by
          intro W' hg'
          have h1 : IntsV W' (.slice QA (c.vs.getD i []).length qc) (c.vs.getD i []) := hvV.ext (hg'.old (h00.trans (hx0e.trans hx8)) fun k hk => by
            rcases hk with ((hk | hk) | hk) | hk
            . rw [hk]; exact nL (h00.trans hx1).size hb2
            . rw [hk]; exact nL (h00.trans (hx1.trans hx2)).size hb4
            . exact hk.1
            . have := hlo k hk; have := (h00.trans hxw4).size; omega)
          obtain ⟨rv', er, h2⟩ := hoff3 W' (hg'.mono fun k _ hk => .inl (by
            rcases hk with ((hk | hk) | hk) | hk
            . have := hB25.lt; have := hxd.size; omega
            . have := hB45.lt; have := hxd.size; omega
            . have := hx0d.size; omega
            . have := (hal2 k hk).2; have := hxd.size; omega))
          have er2 := congrArg (fun v : Value => match v with | .agg xs => xs.toList | _ => []) er
          simp only [List.cons.injEq, Value.int.injEq, true_and, and_true] at er2
          refine ⟨(.slice QA (c.vs.getD i []).length qc, .int .i64 z, .slice B mm dd), rfl, h1, ?_, ?_⟩
          . simp only; rw [er2.1]
          . simp only; rw [er2.2]; exact h2
        refine apM EA (Φ := AtG) (hGe.ext hx8) hB8 rfl (Ge rfl) hΦ om om (nL hg5.size (nL (hx6W2.trans hxe).size hx8.size)) ?_
        intro av9 W4 hG9 hg9 hn9
        refine ρ ?_
        refine Js (GrN.by hg9 fun k hk => hk) ?_
        have hg39 : GrN (fun k => (Value.slice AA ats.length ac).ownBlock = some k) W3 W4 := GrN.by hg9 fun k hk => hk
        have hB4f := Jc (hB4e.ext hx8) hg39 n4
        obtain ⟨A9, c9, ev9, hc9, hal9⟩ := hG9.form
        refine ρn ?_
        refine Xd ?_
        refine sto (hB4f.at (i := 4) rfl) (hB4f.frozen 4) ?_ (hv := by rw [ev9]; rfl)
        have hg40 : GrN (fun k => k = b4) W4 (W4.setCell ((⟨b4, 0, none⟩ : Addr).add 4) av9) := GrN.set _ rfl
        have hB4g : Blk (W4.setCell ((⟨b4, 0, none⟩ : Addr).add 4) av9) b4 92 [.int .i64 c.n, .int .i64 c.f, .slice dA c.ds.length dc, .slice pA c.pm.length pc, av9] := hB4f.set 4 _
        have hG10 : OwnM 99 3 AtG (fun k => (k = b2 ∨ k = b4) ∨ (w0.heap.size ≤ k ∧ k < w.heap.size)) (W4.setCell ((⟨b4, 0, none⟩ : Addr).add 4) av9) w4.heap.size av9 (ats ++ [⟨c.vs.getD i [], (c.vs.getD i []).length, m⟩]) := hG9.gr (hg40.mono fun k _ h => .inl (.inr h)) fun g eg e => by have := (hal9 g eg).1; have := hB44.lt; have := hB24.lt; have := hxw4.size; rcases e with (e | e) | e <;> omega
        generalize (W4.setCell ((⟨b4, 0, none⟩ : Addr).add 4) av9) = W5 at hg40 hB4g hG10
        have hgt : GrN (fun k => k = b4) w4 W5 := by
          have h1 : GrN (fun k => k = b4 ∨ w4.heap.size ≤ k) w4 W5 := (((hg5.mono fun k _ h => (.inl h : k = b4 ∨ w4.heap.size ≤ k)).trans (GrN.ext ((hx6W2.trans hxe).trans hx8))).trans (hg39.mono fun k _ h => .inr (hlo k h))).trans (hg40.mono fun k _ h => .inl h)
          exact h1.mono fun k hk h => h.elim id fun h' => by omega
        refine Jh (Gw ?_)
        refine ρn ?_
        refine ρ ?_
        refine Jl (i + 1) av9 sO ⟨om, by omega, hgt, hB4g, _, by rw [List.length_append, hal]; rfl, hG10, fun j hj => ?_⟩ om
        by_cases ej : j = i
        . subst ej
          have : (ats ++ [(⟨c.vs.getD j [], (c.vs.getD j []).length, m⟩ : Atm)]).getD j a0 = ⟨c.vs.getD j [], (c.vs.getD j []).length, m⟩ := by simp [List.getD, ← hal]
          rw [this]
          exact ⟨rfl, rfl, hv32, hrok, hm6, hmsub, fun h => hmset (.inl h)⟩
        . have : (ats ++ [(⟨c.vs.getD i [], (c.vs.getD i []).length, m⟩ : Atm)]).getD j a0 = ats.getD j a0 := by simp [List.getD, List.getElem?_append_left (show j < ats.length by omega)]
          rw [this]; exact hmk j om
    . intro rest
      refine htwo 11 15 kr rfl rfl rfl ?_ ?_
      . refine ρ ?_
        refine cl (Jvl (ar := (c.vs.getD i []).length) (hrV.ext hx0d)) ?_
        rintro u W ⟨hy, rv, e, rfl, hform, hsuf, hrel⟩
        refine Jh (Kr hy ?_)
        refine Zp (fuel' := 4) 8 [(0, 12), (0, 13)] (lst 18 14) kr kr rfl ?_
        refine ρd ?_
        refine Xv ?_
        refine Ye (fuel' := 3) 14 kr kr rfl rfl ?_
        refine ρp ?_
        refine ρd ?_
        refine Xv ?_
        refine Zp (fuel' := 2) 8 [(1, 15)] (lst 18 16) kr kr rfl ?_
        refine dalc' (cs := [.int .i64 0, .slice none 0 0]) Ux ?_
        intro W2 b6 hy2 hb6 hB6
        refine Vx (Xv ?_)
        refine rest (rv, e, b6) _ _ ⟨hy.trans hy2, hB6, nL hy.size hb6, hform, hsuf, fun he => ?_⟩ sB
        obtain ⟨q1, q2, m, q3, q4, q5, q6⟩ := hrel he
        exact ⟨q1, q2, m, (q3.mono fun k hk h => h.elim id fun (h : k = b6) => by omega).ext hy2, q4, q5, q6⟩
      . refine ρ ?_
        refine alc Ux ?_
        intro W b6 hy hb6 hB6
        refine Jh (Kr hy ?_)
        refine Zp (fuel' := 3) 8 [(1, 11), (0, 12), (0, 13)] ((lst 18 14).setIfInBounds 15 true) kr kr rfl ?_
        refine ρd ?_
        refine dcl (Jvl (ar := (c.vs.getD i []).length) (hrV.ext (hx0d.trans hy))) ?_
        rintro u W2 ⟨hy2, rv, e, rfl, hform, hsuf, hrel⟩
        refine ⟨hy2, ?_⟩
        refine ρd ?_
        refine Xv ?_
        refine Ye (fuel' := 2) 14 kr kr rfl rfl ?_
        refine ρp ?_
        refine ρd ?_
        refine Xv ?_
        refine hlist (listed' := lst 18 16) kr ?_
        refine rest (rv, e, b6) _ _ ⟨hy.trans hy2, hB6.ext hy2, hb6, hform, hsuf, fun he => ?_⟩ sB
        obtain ⟨q1, q2, m, q3, q4, q5, q6⟩ := hrel he
        refine ⟨q1, q2, m, q3.mono fun k hk h => ?_, q4, q5, q6⟩
        have := hB6.lt
        have := hy.size
        rcases h with h | (h : k = b6) <;> omega
  . have hex : ¬ (i < c.vs.length ∧ i < c.rss.length) := fun h' => by have := ht.2 h'; rw [h] at this; cases this
    clear h ht
    obtain ⟨AA, ac, eav, hacl, hal2⟩ := hG5.form
    subst eav
    have hxd : Ext w6 w6.drew := (Ext.refl w6).drew
    refine ρ ?_
    have n2 : ¬ b = b2 := fun e => by have := hB.lt; omega
    refine drN (fun k => k = b2) 10 [(0, 0), (0, 1), (0, 2), (0, 3), (0, 4), (0, 5), (0, 6), (0, 7), (1, 8), (0, 9)] kr ?_
    refine ρn ?_
    refine Xw (cs := [.int .i64 c.n, .int .i64 c.f, .slice dA c.ds.length dc, .slice pA c.pm.length pc, .slice AA ats.length ac]) (fun w' hg j u hu => (Jc (hB45.ext hxd) hg (fun e => hb24 e.symm)).at hu) ?_
    refine ρn ?_
    refine nld (Jm ((hB05.ext hxd).at (i := 4) rfl) n2) ?_
    refine ρn ?_
    refine nld (Jm ((hB05.ext hxd).at (i := 5) rfl) n2) ?_
    refine ρn ?_
    refine nop ?_
    refine stW (hB25.ext hxd) ?_
    intro W3 hB3 hg3 hx3'
    have hxf : Ext w W3 := hx3' w (hx5.trans hxd) (nL hx1.size hb2)
    have hgg : GrN (fun k => k = b2) w6.drew W3 := GrN.by hg3 fun k hk => by injection hk with hk; exact hk.symm
    refine Jh (Js hgg ?_)
    refine ρn ?_
    refine ρ ?_
    refine Zf hB3 ⟨hxf, dA, pA, AA, dc, pc, ac, ats.length, ((c.vs.length : Int) == (c.rss.length : Int)), rfl, hD, hP, fun h => ?_, fun hS => by rw [hS.len]; exact beq_self_eq_true _⟩
    have he : c.vs.length = c.rss.length := by have := Xl h; omega
    have hi' : i = c.vs.length := by omega
    refine ⟨he, ats, by omega, ?_, fun j hj => hmk j om⟩
    have hN0 : ∀ g, (Value.slice AA ats.length ac).ownBlock = some g → ¬ ((g = b2 ∨ g = b4) ∨ (w0.heap.size ≤ g ∧ g < w.heap.size)) := fun g eg e => by have := (hal2 g eg).1; have := hB44.lt; have := hB24.lt; have := hxw4.size; rcases e with (e | e) | e <;> omega
    intro W hW
    exact (((hG5.ext hxd).gr (hgg.mono fun k _ h => .inl (.inl h)) hN0).gr (hW.mono fun k _ h => .inr h) hN0).gv om
open Go.RowKit Pl Go.Wk
def MkR(w:World)(c:Cse)(u:Value)(P:Prop): Prop:=∃ (dA pA aA:Option Addr) (dc pc ac an:Nat) (ok:Bool),u=.tuple #[.agg #[.int .i64 c.n,.int .i64 c.f,.slice dA c.ds.length dc,.slice pA c.pm.length pc,.slice aA an ac],.bool ok] /\
 BoolsV w (.slice dA c.ds.length dc) c.ds/\IntsV w (.slice pA c.pm.length pc) c.pm/\(ok=true->c.vs.length=c.rss.length/\∃ ats:List Atm,ats.length=c.vs.length/\GV 3 AtG w (.slice aA an ac) ats/\(∀ i,i<c.vs.length->MkA (ats.getD i a0) (c.vs.getD i []) (c.rss.getD i []))/\(P->Jxv ⟨c.n,c.f,c.ds,c.pm,ats⟩))/\(MkS c->(∀ ats:List Atm,ats.length=c.vs.length->(∀ i,i<c.vs.length->MkA (ats.getD i a0) (c.vs.getD i []) (c.rss.getD i []))->Jxv ⟨c.n,c.f,c.ds,c.pm,ats⟩)->ok=true)
theorem Qvn{w:World}{cs:List Value}{c:Cse}(h:CseV w cs c): Ret Tryz.prog 58 [.agg cs.toArray] w λu w'=>Ext w w'/\MkR w' c u True:=by
 obtain ⟨ba,b9,b7,b6,vA,vc,rA,rc,b5,_,_,_,_,hn,hf⟩:=id h;subst b5;refine Jz Tryz.func58 Tryz.ntmps58 rfl kr rfl ?_;refine ρ ?_;refine bx ?_;intro w1 b a1 hb hB;refine ρ ?_;refine alc Jjv ?_;intro w2 b2 a6 ah ab;have b1:=hB.ext a6;refine ρ ?_;refine ldW b1 ?_;refine ρ ?_;refine cl (Qhn h (a1.trans a6)) ?_;rintro u w3 ⟨a5,dA,pA,aA,dc,pc,ac,an,ok,rfl,hD,hP,au,ae⟩;refine ρ ?_;refine alc Jjv ?_;intro w4 b4 ao ax ay;refine ρ ?_;refine stW ay ?_;intro w5 aa b8 am;have J:Ext w3 w5:=am w3 ao ax;have a2:=(ab.ext a5).ext J;have ad:=((a1.trans a6).trans a5).trans J;refine ρ ?_;have G:Ext w5 w5.drew:=(Ext.refl w5).drew;have a3:¬ b4=b2:=λe=>by have:=ab.lt;have:=a5.size;omega
 have a4:=ad.trans G;have aj:∀ {W:World},GrN (λk=>k=b2) w5.drew W->Ext w W:=λhg=>hg.old a4 λk U=>by rw [U];exact nL a1.size ah
 have aw:=ab.lt;cases ok with
 | true=>
  obtain ⟨ag,ats,ai,af,hmk⟩:=au rfl;have O:=(af.ext J).ext G;have hG:=O.here;obtain ⟨ts,A,cc,b3,eA,av,ap,ar,aq⟩:=Jbf hG;refine drN (λk=>k=b2) 10 [(0,0),(0,1),(0,2),(0,3),(1,4),(0,5),(0,6),(1,7),(0,8)] kr ?_;refine ρn ?_;refine Xw (cs:=[.int .i64 c.n,.int .i64 c.f,.slice dA c.ds.length dc,.slice pA c.pm.length pc,.slice aA an ac]) (λw' hg j u hu=>(Jc (aa.ext G) hg a3).at hu) ?_;refine ρn ?_;refine Xw (cs:=[.int .i64 c.n,.int .i64 c.f,.slice dA c.ds.length dc,.slice pA c.pm.length pc,.slice aA an ac]) (λw' hg j u hu=>(Jc (aa.ext G) hg a3).at hu) ?_;refine ρn ?_;refine nop ?_;refine cl (Jtx (inp:=⟨c.n,c.f,c.ds,c.pm,ats⟩) ⟨_,rfl,_,_,_,rfl,hD.ext a4,hP.ext a4,⟨ts,A,cc,b3,eA,av,ap,ar,aq⟩⟩ hn hf) ?_;rintro u w6 ⟨Z,e,rfl,he⟩;refine ρ ?_;refine Js (GrN.ext Z) ?_;refine ρn ?_;refine nop ?_;refine stW ((a2.ext G).ext Z) ?_;intro w7 a9 a8 ak;have C:GrN (λk=>k=b2) w6 w7:=GrN.by a8 λk U=>by injection U with U;exact U.symm
  refine Jh (Js C ?_);have o:=aj ((GrN.ext Z).trans C);refine ρn ?_;refine ρ ?_;refine Zf a9 ⟨o,dA,pA,aA,dc,pc,ac,an,_,rfl,hD.ext o,hP.ext o,λh=>⟨ag,ats,ai,?_,hmk,λ_=>he.1 (Xl h)⟩,λ_ hC=>?_⟩;rotate_left
  .have:=he.2 (hC ats ai hmk);rw [this];rfl
  have a7:=(O.ext Z).gr (C.mono λk _ U=>by rw [U];exact ⟨nL a1.size ah,aw⟩);exact a7.here
 | false=>
  refine drN (λk=>k=b2) 10 [(0,0),(0,1),(0,2),(0,3),(1,4),(0,5),(0,6),(1,7),(0,8)] kr ?_;refine ρn ?_;refine Xw (cs:=[.int .i64 c.n,.int .i64 c.f,.slice dA c.ds.length dc,.slice pA c.pm.length pc,.slice aA an ac]) (λw' hg j u hu=>(Jc (aa.ext G) hg a3).at hu) ?_;refine ρn ?_;refine nop ?_;refine stW (a2.ext G) ?_;intro w7 a9 a8 ak;have C:GrN (λk=>k=b2) w5.drew w7:=GrN.by a8 λk U=>by injection U with U;exact U.symm
  refine Jh (Js C ?_);have o:=aj C;refine ρn ?_;refine ρ ?_;exact Zf a9 ⟨o,dA,pA,aA,dc,pc,ac,an,false,rfl,hD.ext o,hP.ext o,λh=>(by cases h),λhS _=>ae hS⟩
end Go.Proofs.YtebcagekopgdhaaGreatDoor
namespace Go.Proofs.YtebcagekopgdhaaGreatDoor
open Pl Go.Wk
noncomputable def BBx(tot n f:Nat)(kf:Nat->Nat)(pf:Nat->Int)(R:Nat->List Row)(ds:List Bool)(pl:Nat->Nat)(u:Nat): List BkT:=if u<f then (if tot=0 then [] else BBo n f kf pf R ds pl u) else []
section
variable {n f m:Nat} {es perm:List Nat} {vars:Nat->List Nat} {rs:Nat->List Row} {kf:Nat->Nat} {pf:Nat->Int} {R:Nat->List Row} {ds:List Bool} {ats:List Atm} {tot:Nat} {L:List Row} {BB:Nat->List BkT}
theorem Qyl(hat:ats.length=m)(hae:∀ i,i<m->(ats.getD i a0).rows=rs i){T:Nat->Row->Nat}: Xe n pf T ats≠0↔(∀ i,i<m->rs i≠[])/\∀ v,v<n->pf v = -1->0<T v []:=by
 unfold Xe;have o:ats.any (λa=>a.rows.isEmpty)=true↔∃ i,i<m/\rs i=[]:=by
  rw [List.any_eq_true];constructor
  .rintro ⟨a,G,h⟩;obtain ⟨i,hi,rfl⟩:=List.getElem_of_mem G;refine ⟨i,om,?_⟩;rw [<-hae i om];have:ats.getD i a0=ats[i]:=by simp [List.getD,hi]
   rw [this];exact List.isEmpty_iff.1 h
  .rintro ⟨i,hi,h⟩;refine ⟨ats.getD i a0,getD_mem' a0 _ om,?_⟩;rw [hae i hi,h];rfl
 split
 .rename_i h;obtain ⟨i,hi,e⟩:=o.1 h;exact ⟨λh=>absurd rfl h,λh=>absurd e (h.1 i hi)⟩
 .rename_i h;have J:∀ i,i<m->rs i≠[]:=λi hi e=>h (o.2 ⟨i,hi,e⟩);rw [<-Nat.pos_iff_ne_zero,prodR_pos];refine ⟨λh=>⟨J,λv C u=>?_⟩,λh v C=>?_⟩
  .have:=h v C;rwa [if_pos u]at this
  .by_cases u:pf v = -1
   .rw [if_pos u];exact h.2 v C u
   .rw [if_neg u];exact Nat.one_pos
theorem ElR.ixP(h:ElR n f m es perm vars rs kf pf R)(hfit:∀ v,v<f->∀ x∈R v,∀ u∈x,Ve u/\u.bytes.length<=24)(hat:ats.length=m)(hae:∀ i,i<m->(ats.getD i a0).rows=rs i)(htot:tot=Xe n pf (TV n f kf pf R ds (plO perm f)) ats)(hL:Lt ds L)(hLm:∀ y,y∈L↔∃ z,Zk n m vars rs z/\z.take f=y):
  IxP f ds kf pf (BBx tot n f kf pf R ds (plO perm f)) tot L:=by
 have ac:=h.pm.fn;have hn:=h.n32;have C:=h.ok (ds:=ds);have J:tot≠0↔(Jxx n f m perm vars rs kf pf R ds).Roots:=by
  rw [htot,Qyl hat hae];constructor
  .rintro ⟨Z,h2⟩;refine ⟨λv o hp=>h2 v o hp,λa ha=>?_⟩;obtain ⟨i,hi,rfl⟩:=List.mem_map.1 ha;exact Z i (List.mem_range.1 hi)
  .rintro ⟨Z,h2⟩;exact ⟨λi hi=>h2 (vars i,rs i) (List.mem_map.2 ⟨i,List.mem_range.2 hi,rfl⟩),λv o hp=>Z v o hp⟩
 have a3:∀ z,(Jxx n f m perm vars rs kf pf R ds).Join z↔Zk n m vars rs z:=λz=>by
  constructor
  .rintro ⟨Z,h2⟩;exact ⟨Z,λi hi=>h2 (vars i,rs i) (List.mem_map.2 ⟨i,List.mem_range.2 hi,rfl⟩)⟩
  .rintro ⟨Z,h2⟩;refine ⟨Z,λa ha=>?_⟩;obtain ⟨i,hi,rfl⟩:=List.mem_map.1 ha;exact h2 i (List.mem_range.1 hi)
 have hE:tot≠0->∀ v,v<f->∀ k,entK (BBx tot n f kf pf R ds (plO perm f) v) k=(Jxx n f m perm vars rs kf pf R ds).E v k:=λh0 v o k=>by
  unfold BBx;rw [if_pos o,if_neg h0];rfl
 obtain ⟨X,hX⟩:∃ X:BX V,X=⟨V0,n,f,λv=>bk (kf v) 32,pf,plO perm f,(List.range m).map λi=>(vars i,rs i),TV n f kf pf R ds (plO perm f),λv k=>entK (BBx tot n f kf pf R ds (plO perm f) v) k⟩:=⟨_,rfl⟩;have G:tot≠0->X.Ok:=λh0=>by
  subst hX;exact ⟨C.FN,C.plN,C.inj,C.k1,C.k2,C.k3,C.k4,C.k5,C.k6,C.al,C.t1,λv o k=>by
   have:=C.t2 v o k;rw [<-hE h0 v o k]at this;exact this⟩
 have aj:tot≠0↔X.Roots:=by subst hX;exact J
 have ad:∀ z,X.Join z↔Zk n m vars rs z:=λz=>by subst hX;exact a3 z
 have a4:Xx f kf pf (BBx tot n f kf pf R ds (plO perm f))=X.ix:=by subst hX;rfl
 have O:X.F=f:=by subst hX;rfl
 have ak:X.N=n:=by subst hX;rfl
 have an:X.d0=V0:=by subst hX;rfl
 have a7:tot≠0->X.ix.Srt ds:=λh0=>by
  have hs:=h.srt (ds:=ds);subst hX;refine ⟨rfl,λv o k=>?_⟩;have:=hs.srt v o k;show Jjs _ (entK _ k);rw [hE h0 v o k];exact this
 have a6:tot=0->L=[]:=λh0=>by
  refine List.eq_nil_iff_forall_not_mem.2 λy hy=>?_;obtain ⟨z,hz,e⟩:=(hLm y).1 hy;have ae:=(a3 z).2 hz;have a1:y.length=f:=by rw [<-e,List.length_take,hz.1];omega
  have:=(C.answers (y:=y) a1).2 ⟨z,ae,e⟩;exact absurd h0 (J.2 this.2)
 have a8:tot≠0->L=X.ix.ext f []:=λh0=>by
  refine Im hL ((a7 h0).ext f [] (by show 0+f=X.F;omega)) λy=>?_;rw [hLm y];have U:=(G h0).ixOk;constructor
  .rintro ⟨z,hz,e⟩;have a1:y.length=X.F:=by rw [<-e,List.length_take,hz.1];omega
   have:=((G h0).answers a1).2 ⟨z,(ad z).2 hz,by rw [O];exact e⟩;refine (AX.ext_mem f [] y).2 ⟨by rw [a1,O];simp,rfl,λv _ o=>?_⟩;have a9:v<X.F:=by rw [O];simpa using o
   have Z:=this.1 v a9;have hk:X.ix.key v (y.take v)=X.ix.key v y:=by
    have:=U.key_pre (c:=v) (y:=y.take v) (z:=y.drop v) a9 (by rw [List.length_take,Nat.min_eq_left om];exact (U.pl v a9).2);rw [List.take_append_drop]at this;exact this.symm
   show y.getD v X.d0∈(X.E v (X.ix.key v (y.take v))).map (·.1)
   rw [hk];exact Z
  .intro hy;obtain ⟨Z,_,h3⟩:=(AX.ext_mem f [] y).1 hy;have a1:y.length=X.F:=by rw [Z,O];simp
   have af:∀ v,v<X.F->y.getD v X.d0∈(X.E v (prj X.d0 (X.K v) y)).map (·.1):=λv o=>by
    have h4:=h3 v (Nat.zero_le _) (by simpa [O] using o);have hk:X.ix.key v (y.take v)=X.ix.key v y:=by
     have:=U.key_pre (c:=v) (y:=y.take v) (z:=y.drop v) o (by rw [List.length_take,Nat.min_eq_left om];exact (U.pl v o).2);rw [List.take_append_drop]at this;exact this.symm
    rw [hk]at h4;exact h4
   obtain ⟨z,hz,e⟩:=((G h0).answers a1).1 ⟨af,aj.1 h0⟩;exact ⟨z,(ad z).1 hz,by rw [O]at e;exact e⟩
 have aa:∀ v,v<f->GInv (ds.getD v false) (λx=>wtL (TV n f kf pf R ds (plO perm f)) x (chK kf pf v n)) (Go.Proofs.YtebcagekopgdhaaGreatDoor.lastC kf v) (R v) (BBo n f kf pf R ds (plO perm f) v):=λv o=>Jbk h o;have ab:∀ v k,(trK (BBx tot n f kf pf R ds (plO perm f) v) k).toL=[]∨(v<f/\(trK (BBx tot n f kf pf R ds (plO perm f) v) k).toL=Vc (ds.getD v false) (Qt (λx=>wtL (TV n f kf pf R ds (plO perm f)) x (chK kf pf v n)) (Go.Proofs.YtebcagekopgdhaaGreatDoor.lastC kf v) (R v) k)):=λv k=>by
  rw [Jcc];unfold BBx;by_cases o:v<f
  .rw [if_pos o];by_cases h0:tot=0
   .rw [if_pos h0];exact .inl rfl
   .rw [if_neg h0];exact .inr ⟨o,(aa v o).entK k⟩
  .rw [if_neg o];exact .inl rfl
 refine ⟨?_,λh0 v=>?_,λh0=>a4 ▸ (G h0).ixOk,λh0=>a4 ▸ a7 h0,λh0=>a4 ▸ a8 h0,λv k=>?_,λv k=>?_,λv b hb p hp=>?_,om,λv o=>(h.bags v om).1⟩
 .by_cases h0:tot=0
  .rw [a6 h0,h0];rfl
  .have U:=(G h0).ixOk;rw [a8 h0,U.ext_len f [] (by show 0+f=X.F;omega)];have e1:tot=Jf n λv=>if pf v = -1 then TV n f kf pf R ds (plO perm f) v [] else 1:=by
    have a5:=h0;rw [htot]at a5 ⊢;unfold Xe at a5 ⊢;split
    .rename_i hc;rw [if_pos hc]at a5;exact absurd rfl a5
    .rfl
   rw [e1,Jrj ac λc Z h2=>?_]
   .show Jf f _=Jf X.F _;rw [O];refine Gk λc hc=>?_;have ag:=U.pl c (by rw [show X.ix.F=X.F from rfl,O];exact hc);have a2:X.ix.par c=pf c:=by subst hX;rfl
    rw [a2]at ag;by_cases hp:pf c = -1
    .rw [if_pos hp,if_pos ⟨Nat.zero_le _,by rw [a2];simp;omega⟩];have ah:X.ix.key c []=[]:=by
      have ai:X.K c=[]:=(G h0).kroot (by rw [ak];omega) (by subst hX;exact hp);show prj X.d0 (X.K c) []=[];rw [ai];rfl
     have:=((G h0).t2 c (by rw [O];exact hc) []).1;have hT:X.T c []=TV n f kf pf R ds (plO perm f) c []:=by subst hX;rfl
     rw [hT]at this;rw [this];show _=Pl.tot (X.E c (X.ix.key c []));rw [ah]
    .rw [if_neg hp,if_neg];rintro ⟨_,h2⟩;rw [a2]at h2;simp at h2;omega
   .by_cases hp:pf c = -1
    .rw [if_pos hp];have h3:=(J.1 h0).1 c h2 hp;have h4:=Jhn (n:=n) (R:=R) (ds:=ds) (kf:=kf) h.chf c Z [];have h5:0<TV n f kf pf R ds (plO perm f) c []:=h3;omega
    .rw [if_neg hp]
 .unfold BBx;rw [if_pos h0];split<;>rfl
 .rw [Tr.sum_eq];rcases ab v k with e|⟨o,e⟩
  .rw [e];exact Nat.zero_le _
  .rw [e,Jys];have:=h.big (ds:=ds) v k;rw [Jbg h.chf ac o,Jcd]at this;have e2:=(aa v o).entK k;unfold BBo at e2;rw [e2,Jys]at this;exact this
 .rw [Tr.sz_eq];rcases ab v k with e|⟨o,e⟩
  .rw [e];exact Nat.zero_le _
  .rw [e];have Z:(Vc (ds.getD v false) (Qt (λx=>wtL (TV n f kf pf R ds (plO perm f)) x (chK kf pf v n)) (Go.Proofs.YtebcagekopgdhaaGreatDoor.lastC kf v) (R v) k)).length<=(R v).length:=by
    have:(Qt (λx=>wtL (TV n f kf pf R ds (plO perm f)) x (chK kf pf v n)) (Go.Proofs.YtebcagekopgdhaaGreatDoor.lastC kf v) (R v) k).length<=(R v).length:=by
     unfold Qt;rw [List.length_map];exact List.length_filter_le _ _
    unfold Vc;split<;>simpa using this
   exact nL Z (h.rows v om).2.2
 .unfold BBx at hb;by_cases o:v<f
  .rw [if_pos o]at hb;by_cases h0:tot=0
   .rw [if_pos h0]at hb;cases hb
   .rw [if_neg h0]at hb;rw [((aa v o).con b hb).1,Qjw,entL_mem]at hp;obtain ⟨x,hx,_,h2,_⟩:=hp;rw [<-h2];have am:=h.rl o x hx;have:x.getD (Go.Proofs.YtebcagekopgdhaaGreatDoor.lastC kf v) V0∈x:=getD_mem' V0 x om;exact hfit v o x hx _ this
  .rw [if_neg o]at hb;cases hb
theorem IxP.few(h:IxP f ds kf pf BB tot L)(hl:L.length<4294967296): tot≠0->∀ z,(Xx f kf pf BB).Gp z->z.length<f->0<(Xx f kf pf BB).pend z.length z->(Xx f kf pf BB).others z.length z<4294967296:=λh0 z C o u=>by
 have J:=((h.ok h0).others_le o u).2;have G:=(h.ok h0).pend_le z.length z rfl (Nat.le_of_lt o) C;rw [h.pend0 h0,h.len]at G;omega
end
open Pl Go.Wk
variable {l:List Int}{i n u v:Nat}
def toN(l:List Int): List Nat:=l.map Int.toNat
theorem Jvx(h:∀ v∈l,0<=v): nz (toN l)=l:=by
 unfold nz toN;rw [List.map_map];conv=>rhs;rw [<-List.map_id l]
 exact List.map_congr_left λv o=>by simp only [Function.comp,id];have:=h v o;omega
theorem Jcf(h:∀ v∈l,0<=v): u∈toN l↔(u:Int)∈l:=by
 conv=>rhs;rw [<-Jvx h]
 unfold nz;rw [List.mem_map];exact ⟨λC=>⟨u,C,rfl⟩,λ⟨v,o,e⟩=>by (have:v=u:=by omega);(exact this ▸ o)⟩
theorem Xjt{l:List Nat}(h:ascB (nz l)): Qo l:=by
 unfold Qo;rw [List.pairwise_iff_getElem];intro i j hi C G;have step:∀ k,0<k->k<l.length->l.getD (k-1) 0<l.getD k 0:=λk h0 u=>by
  have:=h k h0 (by rw [Qq];exact u);rw [Jvz om,Jvz u]at this;omega
 have key:∀ d,i+1+d<l.length->l.getD i 0<l.getD (i+1+d) 0:=by
  intro d;induction d with
  | zero=>intro o;have:=step (i+1) om o;simpa using this
  | succ d ih=>
   intro o;have O:=ih om;have J:=step (i+1+(d+1)) om o;have e:i+1+(d+1)-1=i+1+d:=om
   rw [e]at J;omega
 have:=key (j-(i+1)) om;rw [show i+1+(j-(i+1))=j by omega,Jp 0 _ hi,Jp 0 _ C]at this;exact this
structure CseOk(c:Cse)(ats:List Atm): Prop where
 few:FewP c
 len:c.vs.length=c.rss.length
 al:ats.length=c.vs.length
 mka:∀ i,i<c.vs.length->MkA (ats.getD i a0) (c.vs.getD i []) (c.rss.getD i [])
 chk:Jxv ⟨c.n,c.f,c.ds,c.pm,ats⟩
 fit:∀ i,i<c.rss.length->∀ r∈c.rss.getD i [],∀ u∈r,Ve u
def Cse.N(c:Cse): Nat:=c.n.toNat
def Cse.F(c:Cse): Nat:=c.f.toNat
def Cse.m(c:Cse): Nat:=c.vs.length
def Cse.vars(c:Cse)(i:Nat): List Nat:=toN (c.vs.getD i [])
def Cse.crs(c:Cse)(i:Nat): List Row:=c.rss.getD i []
def rsA(ats:List Atm)(i:Nat): List Row:=(ats.getD i a0).rows
def Cse.ans(c:Cse): List Row:=Jwl c.m c.vars c.crs c.N c.F c.ds
section
variable {c:Cse} {ats:List Atm}
theorem CseOk.nN(h:CseOk c ats): c.n=(c.N:Int)/\c.N<=6:=by
 have u:=h.chk.1;have o:=h.chk.2.1;have C:=h.few.n6;simp only at u o;unfold Cse.N;omega
theorem CseOk.fF(h:CseOk c ats): c.f=(c.F:Int)/\c.F<=c.N:=by
 obtain ⟨C,_,u,o,_⟩:=h.chk;simp only at C u o;unfold Cse.F Cse.N;omega
theorem CseOk.at_(h:CseOk c ats)(hi:i<c.m): Jwj c.n (ats.getD i a0):=by
 obtain ⟨_,_,_,_,_,_,_,_,_,_,_,o,_⟩:=h.chk;exact o _ (getD_mem' a0 _ (by rw [h.al];exact hi))
theorem CseOk.vars(h:CseOk c ats){i:Nat}(hi:i<c.m): nz (c.vars i)=c.vs.getD i []/\Qo (c.vars i)/\(∀ v∈c.vars i,v<c.N)/\(c.vars i).length=(c.vs.getD i []).length:=by
 obtain ⟨C,u,J⟩:=h.at_ hi;have G:=(h.mka i hi).vars;rw [G]at C u;have h0:∀ v∈c.vs.getD i [],0<=v:=λv o=>(u v o).1;refine ⟨Jvx h0,Xjt (by unfold Cse.vars;rw [Jvx h0];exact C),λv o=>?_,by simp [Cse.vars,toN]⟩;have:=(u v ((Jcf h0).1 o)).2;have:=h.nN.1;omega
theorem CseOk.cov(h:CseOk c ats)(hv:v<c.N): ∃ i,i<c.m/\v∈c.vars i:=by
 obtain ⟨_,_,_,_,_,_,_,_,_,_,_,_,Z⟩:=h.chk;obtain ⟨a,U,C⟩:=Z v (by have:=h.nN.1;simp only;omega);obtain ⟨i,hi,e⟩:=List.getElem_of_mem U;have o:i<c.m:=by have:=h.al;unfold Cse.m;simp only at hi;omega
 have J:ats.getD i a0=a:=by rw [Jp a0 _ hi,e]
 have G:=(h.mka i o).vars;rw [J]at G;refine ⟨i,o,(Jcf λu O=>?_).2 (G ▸ C)⟩;have:=(h.at_ o).2.1 u (by rw [J,G];exact O);exact this.1
theorem CseOk.set(h:CseOk c ats){i:Nat}(hi:i<c.m): Zz [] (c.crs i) (rsA ats i):=(h.mka i hi).set (by have:=h.few.row i (by rw [<-h.len];exact hi);unfold Cse.m at hi;omega)
theorem CseOk.clen(h:CseOk c ats)(hi:i<c.m): ∀ r∈c.crs i,r.length=(c.vars i).length:=λr o=>by rw [(h.vars hi).2.2.2];exact ((h.mka i hi).ok r o).1
theorem CseOk.slen(h:CseOk c ats)(hi:i<c.m): ∀ r∈rsA ats i,r.length=(c.vars i).length:=λr o=>h.clen hi r (((h.set hi).2 r).1 o)
theorem Jrh{g g':Nat->Nat}(h:∀ c,c<n->g c<=g' c): Jf n g<=Jf n g':=by
 induction n with
 | zero=>exact Nat.le_refl _
 | succ n ih=>rw [Jf,Jf];exact Nat.mul_le_mul (ih λc o=>h c om) (h n om)
theorem CseOk.cnt(h:CseOk c ats): max 1 (Jf c.m λi=>(c.crs i).length)<=5000:=by
 have o:=h.few.cnt;rw [<-h.len]at o;have u:Jf c.m (λi=>(c.crs i).length)<=Jf c.vs.length λi=>max 1 (c.rss.getD i []).length:=Jrh λi _=>Nat.le_max_right _ _;omega
theorem CseOk.refP(h:CseOk c ats): RefP c.N c.m c.vars c.crs:=by
 have u:=h.nN.2;refine ⟨om,by have:=h.few.v5;unfold Cse.m;omega,λi hi=>(h.vars hi).2.1,λi hi=>(h.vars hi).2.2.1,λi hi=>h.clen hi,λv o=>h.cov o,h.cnt,λi hi=>h.few.row i (by rw [<-h.len];exact hi)⟩
theorem Jcn{ds:List Bool}{ls m:List Row}(h:Zz ds ls m): m.length<=ls.length:=Jzx (Jdz h.1) λx o=>(h.2 x).1 o
theorem CseOk.pm(h:CseOk c ats): PermOk c.N c.F (toN c.pm)/\nz (toN c.pm)=c.pm:=by
 obtain ⟨_,_,_,_,_,G,u,C,_⟩:=h.chk;simp only at G u C;have hn:=h.nN.1;have J:=h.fF.1;have h0:∀ v∈c.pm,0<=v:=λv o=>by have:=(u v o).1;omega
 refine ⟨⟨h.fF.2,by simp [toN];omega,λv o=>?_,?_⟩,Jvx h0⟩
 .have:=u v ((Jcf h0).1 o);omega
 .unfold toN List.Nodup;rw [List.pairwise_map];exact List.Pairwise.imp_of_mem (fun {a b} ha hb hab e=>hab (by have:=h0 a ha;have:=h0 b hb;omega)) C
theorem CseOk.bldI(h:CseOk c ats){ts:List TA}(hts:ats=ts.map (·.2)): BldI c.N c.F c.ds (toN c.pm) ts c.vars (rsA ats):=by
 have hN:=h.nN.2;have o:ts.length=c.m:=by have:=h.al;rw [hts,List.length_map]at this;exact this
 have C:RunOk c.N ts c.vars (rsA ats):=by
  refine ⟨om,by have:=h.few.v5;unfold Cse.m at o;omega,λi hi=>?_,λi hi=>(h.vars (o ▸ hi)).2.1,λi hi=>(h.vars (o ▸ hi)).2.2.1,λv J=>by rw [o];exact h.cov J,λi hi=>(h.set (o ▸ hi)).1,λi hi=>h.slen (o ▸ hi),λi hi=>(h.mka i (show i<c.m from o ▸ hi)).len⟩;have G:i<c.m:=o ▸ hi;have e:(ts.getD i ta0).2=ats.getD i a0:=by rw [hts];simp [List.getD,hi]
  have hm:=h.mka i G;obtain ⟨v1,_,_,v4⟩:=h.vars G;rw [e];have e2:ats.getD i a0=⟨(ats.getD i a0).vars,(ats.getD i a0).ar,(ats.getD i a0).rows⟩:=rfl;rw [e2,hm.vars,hm.ar,v1,v4];rfl
 refine ⟨C,h.pm.1,?_,λi hi r hr u hu=>?_,λkf pf hb v J=>⟨λl hl hx=>?_,λi hi=>.inl ?_⟩⟩
 .obtain ⟨_,_,_,_,U,_⟩:=h.chk;simp only at U;unfold Cse.F;omega
 .have G:i<c.m:=o ▸ hi;have O:=((h.set G).2 r).1 hr;have U:=((h.mka i G).ok r O).2;exact ⟨List.all_eq_true.1 U u hu,h.fit i (by rw [<-h.len];exact G) r O u hu⟩
 .have hs:kf v ||| 2^v<2^c.N:=by
   refine Nat.lt_pow_two_of_testBit _ λi hi=>?_;cases hbt:(kf v ||| 2^v).testBit i with
   | false=>rfl
   | true=>
    rw [Nat.testBit_or,Nat.testBit_two_pow,Bool.or_eq_true,decide_eq_true_eq]at hbt;rcases hbt with hbt|hbt
    .rw [(hb v J).2.1]at hbt;have Z:∀ e∈Xy ts.length c.vars,e<2^c.N:=λe he=>by
      obtain ⟨i,hi,rfl⟩:=List.mem_map.1 he;exact Jxp (C.lt i (List.mem_range.1 hi))
     have:=Jyg (nb:=nb0 c.N (Xy ts.length c.vars)) (ord:=Qv (toN c.pm) c.F) (N:=c.N) (λa b a1=>(Jxb Z a1).2.1) hbt;omega
    .omega
  have U:=Xjm (m:=ts.length) (vars:=c.vars) (rs:=rsA ats) (l:=l) (λi hi=>C.asc i hi) (λv J=>C.cov v J) hs hl hx;have h2:Jf ts.length (λi=>(rsA ats i).length)<=Jf ts.length λi=>(c.crs i).length:=Jrh λi hi=>Jcn (h.set (o ▸ hi));have h3:=h.cnt;rw [o]at h2;rw [o]at U;omega
 .have:=Jcn (h.set (o ▸ hi));have h2:=h.few.row i (by rw [<-h.len];exact (show i<c.m from o ▸ hi));unfold Cse.crs at this;omega
theorem CseOk.ansJ(h:CseOk c ats)(z:Row): Zk c.N c.m c.vars (rsA ats) z↔Zk c.N c.m c.vars c.crs z:=by
 unfold Zk;refine and_congr_right λ_=>forall_congr' λi=>forall_congr' λhi=>?_;exact (h.set hi).2 _
theorem CseOk.ans(h:CseOk c ats): Lt c.ds c.ans/\∀ y,y∈c.ans↔∃ z,Zk c.N c.m c.vars (rsA ats) z/\z.take c.F=y:=by
 have C:=Qkg c.m c.vars c.crs c.N c.F c.ds;have o:=h.refP;refine ⟨C.1,λy=>?_⟩;rw [show c.ans=Jwl c.m c.vars c.crs c.N c.F c.ds from rfl,C.2 y,List.mem_map];constructor
 .rintro ⟨z,u,e⟩;exact ⟨z,(h.ansJ z).2 ((Jfp o.asc o.len o.lt o.cov z).1 u),e⟩
 .rintro ⟨z,u,e⟩;exact ⟨z,(Jfp o.asc o.len o.lt o.cov z).2 ((h.ansJ z).1 u),e⟩
theorem CseOk.anl(h:CseOk c ats): c.ans.length<=5000:=by
 have o:=h.refP;have u:=Jcn (Qkg c.m c.vars c.crs c.N c.F c.ds);have C:=Jtg o.asc o.len o.cov;rw [List.length_map]at u;exact nL u (nL C o.cnt)
end
open Go.RowKit Pl Go.Wk
attribute [local irreducible] WC WL QX WD WDB WP WN WG WH WM
variable {c:Cse}{ats:List Atm}{ds:List Bool}{es perm:List Nat}{ts:List TA}{cs:List Value}{B0 f m n rc t v vc:Nat}{pf:Nat->Int}{vars:Nat->List Nat}{R rs:Nat->List Row}{aA dA pA rA vA:Option Addr}{x:Value}{w w':World}
theorem IxV.congr{kf:Nat->Nat}{BB BB':Nat->List BkT}{tot:Nat}(h:IxV w x f ds kf pf BB tot)(he:∀ v,v<f->BB v=BB' v): IxV w x f ds kf pf BB' tot:=by
 obtain ⟨DA,dc,BA,cb,KA,ck,PA,cp,G,u,o,h1,h2,h3,h4,h5,Z,U,O,J⟩:=h.ex;exact ⟨⟨DA,dc,BA,cb,KA,ck,PA,cp,G,u,o,h1,h2,h3,h4,h5,Z,U,O,λv C=>he v C ▸ J v C⟩,h.dl,h.f32⟩
theorem Qsw{b:Nat}(h:Blk w b t cs)(h':Blk w' b t cs)(hg:GrN (λk=>k=b) w w'): Ext w w':=⟨hg.os,hg.tape,hg.output,hg.size,λk o=>if e:k=b then by subst e;exact h'.trans h.symm else hg.block k o e⟩
theorem Qtp(w:World): (Instr.build 31 #[]).run Tryz.prog w=.ok (.agg #[.slice none 0 0,.slice none 0 0,.slice none 0 0,.slice none 0 0,.slice none 0 0]) w:=kr
theorem ElR.fits{kf:Nat->Nat}(h:ElR n f ts.length es perm vars rs kf pf R)(hI:BldI n f ds perm ts vars rs):
  ∀ v,v<f->∀ x∈R v,∀ u∈x,Ve u/\u.bytes.length<=24:=λv G x C u J=>by
 have o:v<n:=nM G h.pm.fn;obtain ⟨z,_,e,O⟩:=((h.rows v o).2.1 x).1 C;subst e;exact (hI.fit (h.sb o) O).1.2 u J
theorem ElR.htb{kf:Nat->Nat}{tot:Nat}(h:ElR n f m es perm vars rs kf pf R){b:BkT}(hb:b∈BBx tot n f kf pf R ds (plO perm f) v): b.2.ht<=65536:=by
 unfold BBx at hb;by_cases hv:v<f
 .rw [if_pos hv]at hb;by_cases h0:tot=0
  .rw [if_pos h0]at hb;cases hb
  .rw [if_neg h0]at hb;have e:=((Jbk (ds:=ds) h hv).con b hb).1;have C:b.2.toL.length<=(R v).length:=by
    rw [e];have:(Qt (λx=>wtL (TV n f kf pf R ds (plO perm f)) x (chK kf pf v n)) (Go.Proofs.YtebcagekopgdhaaGreatDoor.lastC kf v) (R v) b.1).length<=(R v).length:=by
     unfold Qt;rw [List.length_map];exact List.length_filter_le _ _
    unfold Vc;split<;>simpa using this
   have o:=Tr.ht_le b.2;rw [Tr.sz_eq]at o;have u:=(h.rows v (nM hv h.pm.fn)).2.2;omega
 .rw [if_neg hv]at hb;cases hb
theorem Qlq{kf:Nat->Nat}{L:List Row}(hTB:∃ B0,TB B0 w)(hI:BldI n f ds perm ts vars rs)(hats:∀ i,i<ts.length->((ts.map (·.2)).getD i a0).rows=rs i)(hE:ElR n f ts.length es perm vars rs kf pf R)(hV:IxV w x f ds kf pf (λu=>if Xe n pf (TV n f kf pf R ds (plO perm f)) (ts.map (·.2))=0 then [] else BBo n f kf pf R ds (plO perm f) u) (Xe n pf (TV n f kf pf R ds (plO perm f)) (ts.map (·.2))))(hL:Lt ds L)(hLm:∀ y,y∈L↔∃ z,Zk n ts.length vars rs z/\z.take f=y)(hl:L.length<4294967296):
  IxA w x f ds kf pf (BBx (Xe n pf (TV n f kf pf R ds (plO perm f)) (ts.map (·.2))) n f kf pf R ds (plO perm f)) (Xe n pf (TV n f kf pf R ds (plO perm f)) (ts.map (·.2))) L:=by
 have o:=hE.ixP (ds:=ds) (tot:=Xe n pf (TV n f kf pf R ds (plO perm f)) (ts.map (·.2))) (hE.fits hI) (ats:=ts.map (·.2)) (by rw [List.length_map]) hats rfl hL hLm
 exact ⟨hTB,hV.congr λv C=>by unfold BBx;rw [if_pos C],o,o.few hl,λv b G=>hE.htb G⟩
def Jhr(c:Cse): Prop:=FewS c/\MkS c/\∀ ats:List Atm,ats.length=c.vs.length->(∀ i,i<c.vs.length->MkA (ats.getD i a0) (c.vs.getD i []) (c.rss.getD i []))->Jxv ⟨c.n,c.f,c.ds,c.pm,ats⟩
theorem Qcj(h:ats=ts.map (·.2)): ∀ i,i<ts.length->((ts.map (·.2)).getD i a0).rows=rsA ats i:=λi hi=>by rw [rsA,h]
theorem CseV.rin(hV:IntssV w (.slice vA c.vs.length vc) c.vs)(hR:RowssV w (.slice rA c.rss.length rc) c.rss)(h:CseOk c ats): RInM w vA rA c.m c.vars c.crs:=by
 obtain ⟨_,_,u,o,_,_,J,G⟩:=hV;injection o with o e2 e3
 subst o;subst e3;obtain ⟨_,_,C,o,_,_,U,O⟩:=hR;injection o with o e2 e3
 subst o;subst e3;refine ⟨⟨u,J,λi hi=>?_⟩,⟨C,?_,λi hi=>O i (by rw [<-h.len];exact hi)⟩⟩
 .rw [(h.vars hi).1];exact G i hi
 .have:=h.len;unfold Cse.m;rw [this];exact U
theorem Qsx{dc pc ac an:Nat}(h:CseOk c ats)(hD:BoolsV w (.slice dA c.ds.length dc) c.ds)(hP:IntsV w (.slice pA c.pm.length pc) c.pm)(hG:GV 3 AtG w (.slice aA an ac) ats):
  ∃ ts:List TA,ats=ts.map (·.2)/\BldV w (.agg #[.int .i64 c.n,.int .i64 c.f,.slice dA c.ds.length dc,.slice pA c.pm.length pc,.slice aA an ac]) c.N c.F c.ds (toN c.pm) ts:=by
 obtain ⟨ts,A,cc,G,eA,U,Z,O,J⟩:=Jbf hG;injection eA with o e2 e3
 subst o;subst e2;subst e3;obtain ⟨D,d',o,h1,h2,h3⟩:=hD;injection o with o e2 e3
 subst o;subst e3;obtain ⟨Q,q',o,h4,h5,h6⟩:=hP;injection o with o e2 e3
 subst o;subst e3;have C:=(h.bldI G).dl;have u:(toN c.pm).length=c.pm.length:=by simp [toN]
 refine ⟨ts,G,dA,dc,pA,pc,aA,ac,?_,by rw [<-C];exact h1,h3,?_,by rw [u];exact h4,O,U,J⟩
 .rw [h.nN.1.symm,h.fF.1.symm,u,<-C]
 .rw [h.pm.2,u];exact h6
theorem Qsk(hTB:TB B0 w)(h:CseV w cs c)(hfit:∀ i,i<c.rss.length->∀ r∈c.rss.getD i [],∀ u∈r,Ve u):
  Ret Tryz.prog 57 [.agg cs.toArray] w λu w'=>Ext w w'/\((u=.tuple #[.agg #[.slice none 0 0,.slice none 0 0,.slice none 0 0,.slice none 0 0,.slice none 0 0],.slice none 0 0,.bool true,.bool true]/\¬ Jhr c) ∨
   ∃ (ats:List Atm) (x av:Value) (kf:Nat->Nat) (pf:Nat->Int) (BB:Nat->List BkT) (tot:Nat),CseOk c ats/\u=.tuple #[x,av,.bool false,.bool true]/\IxA w' x c.F c.ds kf pf BB tot c.ans/\RowsV w' av c.ans):=by
 obtain ⟨dA,dc,pA,pc,vA,vc,rA,rc,rfl,hD,hP,hV,hR,hn,hf⟩:=id h;refine Jz Tryz.func57 Tryz.ntmps57 rfl kr rfl ?_;refine ρ ?_;refine bx ?_;intro w1 b a7 hb hB;refine ρ ?_;refine alc Kd ?_;intro w2 b2 aj b3 c1;have b9:=hB.ext aj;refine ρ ?_;refine ldW b9 ?_;refine ρ ?_;refine cl (Qvn (h.ext (a7.trans aj))) ?_;rintro u w3 ⟨ai,cd,c7,aA,cc,c6,ac,an,ok,rfl,bt,bs,bi,au⟩;refine ρ ?_;refine alc Jjv ?_;intro w4 b4 be bo c0;refine ρ ?_;refine stW c0 ?_;intro w5 bz cb bd;have U:Ext w3 w5:=bd w3 be bo;have b7:=(c1.ext ai).ext U;have af:=(b9.ext ai).ext U;have aa:=((a7.trans aj).trans ai).trans U;refine ρ ?_;refine ldW af ?_;refine ρ ?_;refine cl (Qnm (h.ext aa)) ?_;rintro u w6 ⟨a3,fw,rfl,ay,bm⟩;have O:=U.trans a3;have Z:=aa.trans a3;have a4:=b7.ext a3;refine ρ ?_;refine Vl (fun (t:Bool)=>[(21,.bool t),(1,.pointer (some ⟨b,0,none⟩)),(2,.pointer (some ⟨b2,0,none⟩)),(3,.slice none 0 0),(4,.bool false),(5,.bool false),(6,.pointer (some ⟨b4,0,none⟩)),(7,.bool ok)]) (λt w7=>w7=w6/\t = !(fw && ok)) ?_ ?_
 .cases fw with
  | false=>
   refine ρ ?_;exact Jb true sB ⟨rfl,rfl⟩
  | true=>
   refine ρ ?_;exact Jb (!ok) sB ⟨rfl,by simp⟩
 rintro t w7 ⟨rfl,ht⟩;refine ρ ?_;refine ci (λh=>?_) (λh=>?_)
 .subst h;refine ρ ?_;refine bld (Qtp _) ?_;refine ρ ?_;refine stW a4 ?_;intro w8 bw ca a2;have bb:Ext w w8:=a2 w Z (nL a7.size b3);refine ρ ?_;refine Jgf bw ⟨bb,.inl ⟨rfl,λhG=>?_⟩⟩;have h1:=bm hG.1;have h2:=au hG.2.1 hG.2.2;rw [h1,h2]at ht;cases ht
 .subst h;obtain ⟨c3,c2⟩:fw=true/\ok=true:=by
   cases fw<;>cases ok<;>simp at ht ⊢
  subst c3;subst c2;obtain ⟨aw,ats,bq,hG,hmk,b1⟩:=bi rfl;have G:CseOk c ats:=⟨ay rfl,aw,bq,hmk,b1 trivial,hfit⟩;have b5:=bz.ext a3;refine ρ ?_;refine ldW b5 ?_;obtain ⟨ts,a8,bu⟩:=Qsx G (bt.ext O) (bs.ext O) (hG.ext O λcs a ⟨t,e,h⟩=>⟨t,e,h.ext O⟩);have bg:ts.length=c.m:=by have:=G.al;rw [a8,List.length_map]at this;exact this
  refine ρ ?_;refine cl (Jtl (hTB.ext Z) (G.bldI a8) bu) ?_;rintro u w8 ⟨a2,x,st,kf,pf,R,rfl,hE,ab⟩;obtain ⟨XA,xd,YA,yd,ZA,zd,UA,ud,tv,c8,c5,rfl,_,_,_,_,_,_,bf,_⟩:=id ab.here.ex;obtain ⟨TA,tc,rfl,_⟩:=id bf;have b6:=a4.ext a2;refine ρ ?_;refine stW b6 ?_;intro w9 bv bj bc;have ar:Ext w w9:=bc w (Z.trans a2) (nL a7.size b3);have ad:GrN (λk=>k=b2) w8 w9:=GrN.by bj λk hk=>by injection hk with hk;exact hk.symm
  have bn:=a4.lt;have ak:=ab.gr (ad.mono λk _ hk=>by rw [hk];exact bn);have ba:¬ b=b2:=λe=>by have:=hB.lt;omega
  have b8:=Jc ((af.ext a3).ext a2) ad ba;have a6:Ext w9 w9.drew:=(Ext.refl w9).drew;have a5:=ar.trans a6;have ao:=bv.ext a6;have ae:=b8.ext a6;have br:=CseV.rin (hV.ext a5) (hR.ext a5) G;have c9:c.vs.length=c.m:=rfl;have bh:c.rss.length=c.m:=by rw [<-G.len];rfl
  refine ρ ?_;refine drN (λ_=>False) 13 [(0,0),(0,1),(0,3),(0,4),(0,6),(0,7),(1,2),(1,5),(1,8),(0,9),(0,10),(0,11)] kr ?_;refine ρn ?_;refine Xw (cs:=[.slice XA c.F xd,.slice YA c.F yd,.slice ZA c.F zd,.slice UA c.F ud,.slice TA _ tc]) (λw' hg j u hu=>(ao.ext hg.toExt).at hu) ?_;refine ρn ?_;refine Xw (cs:=[.int .i64 c.n,.int .i64 c.f,.slice dA c.ds.length dc,.slice pA c.pm.length pc,.slice vA c.vs.length vc,.slice rA c.rss.length rc]) (λw' hg j u hu=>(ae.ext hg.toExt).at hu) ?_;refine ρn ?_;refine nld (Jm (ae.at (i:=2) rfl) (λe=>e)) ?_;refine ρn ?_;refine nop ?_;refine cl Qcx ?_;rintro u aq ⟨rfl,o⟩;refine ρ ?_;refine Js (GrN.ext o) ?_;refine ρn ?_;refine nop ?_;have hA:Ret Tryz.prog 60 [.agg #[.int .i64 c.n,.int .i64 c.f,.slice pA c.pm.length pc,.slice vA c.vs.length vc,.slice rA c.rss.length rc],.slice dA c.ds.length dc] aq λu w'=>RowsV w' u c.ans/\Ext aq w':=by
   rw [G.nN.1,G.fF.1,bh];exact Qdj (pA:=pA) (pn:=c.pm.length) (pc:=pc) (vc:=vc) (rc:=rc) G.refP (br.ext o) (by have:=G.nN.2;omega) G.fF.2 (hD.ext (a5.trans o))
  refine cl hA ?_;rintro av ap ⟨bp,C⟩;refine ρ ?_;refine Js (GrN.ext C) ?_;refine ρn ?_;refine nop ?_;refine stW ((ao.ext o).ext C) ?_;intro ah ag ax c4;have am:GrN (λk=>k=b2) ap ah:=GrN.by ax λk hk=>by injection hk with hk;exact hk.symm
  have J:Ext ap ah:=Qsw ((ao.ext o).ext C) ag am;have a1:Ext w ah:=((a5.trans o).trans C).trans J;refine Jh (Js (GrN.ext J) ?_);refine ρn ?_;refine ρ ?_;have a9:=(ak.here.ext (((a6.trans o).trans C).trans J));refine Jgf ag ⟨a1,.inr ⟨ats,_,av,kf,pf,_,_,G,rfl,Qlq ⟨B0,hTB.ext a1⟩ (G.bldI a8) (Qcj a8) hE a9 G.ans.1 (λy=>by rw [bg];exact G.ans.2 y) (by have:=G.anl;omega),bp.ext J⟩⟩
end Go.Proofs.YtebcagekopgdhaaGreatDoor
namespace Go.Proofs.YtebcagekopgdhaaGreatDoor
open Pl Go.Wk
def nV(n:Int): V:=⟨1,n,⟨#[]⟩⟩
def nR(a b:Int): Row:=[nV a,nV b]
theorem Jsk{n:Int}(h:-9223372036854775808<=n/\n<=9223372036854775807): Ve (nV n):=⟨by show _<=(1:Int)/\(1:Int)<=_;omega,h⟩
def Qc(ds:List Bool)(r1 r2 r3:Row): Cse:=⟨2,2,ds,[],[[0,1]],[[r1,r2,r3]]⟩
theorem goodE{ds:List Bool}{r1 r2 r3:Row}(hd:ds.length=2)(h1:r1.length=2/\r1.all Qa=true)(h2:r2.length=2/\r2.all Qa=true)(h3:r3.length=2/\r3.all Qa=true): Jhr (Qc ds r1 r2 r3):=by
 refine ⟨⟨λi hi=>?_,by simp [Qc,Jf],by simp [Qc],by simp [Qc],by simp [Qc],λi hi=>?_,by show ds.length<=10;omega,by simp [Qc]⟩,⟨rfl,λi hi=>?_,λi hi r J=>?_,λi hi=>?_⟩,λats G hmk=>?_⟩
 .have:i=0:=by simp [Qc]at hi;exact hi
  subst this;simp [Qc]
 .have:i=0:=by simp [Qc]at hi;exact hi
  subst this;simp [Qc]
 .have:i=0:=by simp [Qc]at hi;exact hi
  subst this;simp [Qc]
 .have:i=0:=by simp [Qc]at hi;exact hi
  subst this;simp only [Qc,List.getD_cons_zero,List.mem_cons,List.not_mem_nil,or_false]at J;rcases J with rfl|rfl|rfl
  .exact h1
  .exact h2
  .exact h3
 .have:i=0:=by simp [Qc]at hi;exact hi
  subst this;simp [Qc]
 .have u:ats.length=1:=G;obtain ⟨a,rfl⟩:∃ a,ats=[a]:=List.length_eq_one_iff.1 u;have O:=hmk 0 (by simp [Qc]);have o:a.vars=[0,1]:=O.vars;have ha:a.ar=2:=O.ar;refine ⟨by simp [Qc],by simp [Qc],by simp [Qc],by simp [Qc],by show (ds.length:Int)=2;omega,by simp [Qc],λv o=>(by cases o),by simp [Qc],by simp [Qc],by simp [Qc],by simp,λb U=>?_,λv C=>⟨a,by simp,?_⟩⟩
  .rw [List.mem_singleton]at U;subst U;refine ⟨?_,?_,by rw [o,ha];rfl⟩
   .rw [o];intro j h0 hj;have:j=1:=by simp at hj;omega
    subst this;decide
   .rw [o];intro v h;simp only [List.mem_cons,List.not_mem_nil,or_false]at h;rcases h with rfl|rfl<;>simp [Qc]
  .rw [o];have Z:(v:Int)<2:=C;simp only [List.mem_cons,List.not_mem_nil,or_false];omega
def exA(d:Bool): Cse:=Qc [d,false] (nR 1 2) (nR 1 3) (nR 2 3)
theorem Qnq(d:Bool): Jhr (exA d):=goodE rfl ⟨rfl,rfl⟩ ⟨rfl,rfl⟩ ⟨rfl,rfl⟩
theorem exA_ans: (exA false).ans=[nR 1 2,nR 1 3,nR 2 3]/\(exA true).ans=[nR 2 3,nR 1 2,nR 1 3]:=by decide
theorem exA_ans'(d:Bool): (exA d).ans.length=3/\(exA d).ans[1]?=some (if d then nR 1 2 else nR 1 3)/\(wiL (exA d).ans [nV 1])[1]?=some (nR 1 3)/\(wiL (exA d).ans [nV 2])[1]?=none:=by
 cases d with
 | false=>rw [exA_ans.1];decide
 | true=>rw [exA_ans.2];decide
theorem Qnr(d:Bool): ∀ i,i<(exA d).rss.length->∀ r∈(exA d).rss.getD i [],∀ u∈r,Ve u:=λi hi r C u o=>by
 have:i=0:=by simp [exA,Qc]at hi;exact hi
 subst this;simp only [exA,Qc,List.getD_cons_zero,List.mem_cons,List.not_mem_nil,or_false]at C;rcases C with rfl|rfl|rfl <;>
 .simp only [nR,List.mem_cons,List.not_mem_nil,or_false]at o;rcases o with rfl|rfl<;>exact Jsk (by decide)
open Go.RowKit Pl Go.Wk
attribute [local irreducible] WC WL QX WD WDB WP WN WG WH WM
variable {B0 b:Nat}{r r1 r2 r3:Row}{w:World}
theorem Qtg(n:Int)(w:World): (Instr.build 47 #[(0,.int .i64 1),(1,.int .i64 n)]).run Tryz.prog w=.ok (nV n).val w:=kr
theorem Vj(n:Int)(w:World): Ret Tryz.prog 22 [.int .i64 n] w λx w'=>x=(nV n).val/\Ext w w':=by
 refine Jz Tryz.func22 Tryz.ntmps22 rfl kr rfl ?_;refine ρ ?_;refine alc Uu ?_;intro Z b u J G;refine ρ ?_;refine bld (Qtg n _) ?_;refine ρ ?_;refine stb G (cs':=(nV n).cells) ?_ (V.one _);intro U C O o;refine ρ ?_;exact Jjl C ⟨rfl,o w u J⟩
theorem Jjm(a b:V)(w:World): (Instr.buildSlice 37 2 #[(0,a.val),(1,b.val)]).run Tryz.prog w=.ok (.slice (some ⟨w.heap.size,0,none⟩) 2 2) (w.alloc (.cells (Jd [a,b]).toArray 47)):=kr
theorem bs1V(a:V)(w:World): (Instr.buildSlice 37 1 #[(0,a.val)]).run Tryz.prog w=.ok (.slice (some ⟨w.heap.size,0,none⟩) 1 1) (w.alloc (.cells (Jd [a]).toArray 47)):=kr
theorem bs3R(A1 A2 A3:Option Addr)(n1 n2 n3 c1 c2 c3:Nat)(w:World): (Instr.buildSlice 54 3 #[(0,.slice A1 n1 c1),(1,.slice A2 n2 c2),(2,.slice A3 n3 c3)]).run Tryz.prog w=.ok (.slice (some ⟨w.heap.size,0,none⟩) 3 3) (w.alloc (.cells [.slice A1 n1 c1,.slice A2 n2 c2,.slice A3 n3 c3].toArray 37)):=kr
theorem bs1RR(A1:Option Addr)(n1 c1:Nat)(w:World): (Instr.buildSlice 51 1 #[(0,.slice A1 n1 c1)]).run Tryz.prog w=.ok (.slice (some ⟨w.heap.size,0,none⟩) 1 1) (w.alloc (.cells [.slice A1 n1 c1].toArray 54)):=kr
theorem bs1II(A1:Option Addr)(n1 c1:Nat)(w:World): (Instr.buildSlice 50 1 #[(0,.slice A1 n1 c1)]).run Tryz.prog w=.ok (.slice (some ⟨w.heap.size,0,none⟩) 1 1) (w.alloc (.cells [.slice A1 n1 c1].toArray 44)):=kr
theorem bs2I(a b:Int)(w:World): (Instr.buildSlice 44 2 #[(0,.int .i64 a),(1,.int .i64 b)]).run Tryz.prog w=.ok (.slice (some ⟨w.heap.size,0,none⟩) 2 2) (w.alloc (.cells [Value.int .i64 a,.int .i64 b].toArray 3)):=kr
theorem bs2B(a b:Bool)(w:World): (Instr.buildSlice 24 2 #[(0,.bool a),(1,.bool b)]).run Tryz.prog w=.ok (.slice (some ⟨w.heap.size,0,none⟩) 2 2) (w.alloc (.cells [Value.bool a,.bool b].toArray 4)):=kr
theorem Qtt(A B C:Option Addr)(a b c a' b' c':Nat)(w:World): (Instr.build 53 #[(0,.int .i64 2),(1,.int .i64 2),(2,.slice A a a'),(4,.slice B b b'),(5,.slice C c c')]).run Tryz.prog w=.ok (.agg #[.int .i64 2,.int .i64 2,.slice A a a',.slice none 0 0,.slice B b b',.slice C c c']) w:=kr
theorem Jkd(h:Blk w b 47 (Jd r))(hl:r.length<=1100000): RowV w (.slice (some ⟨b,0,none⟩) r.length r.length) r:=⟨some ⟨b,0,none⟩,r.length,rfl,Nat.le_refl _,hl,h.rd (Jdc r)⟩
theorem Qhw(ps:List Pr)(h:Blk w b 37 (ps.map (·.1)))(hr:∀ p∈ps,RowV w p.1 p.2)(hl:ps.length<=1100000): RowsV w (.slice (some ⟨b,0,none⟩) ps.length ps.length) (ps.map (·.2)):=⟨ps,some ⟨b,0,none⟩,ps.length,rfl,rfl,Nat.le_refl _,hl,h.rd (by simp),hr⟩
theorem Qhx{b1 b2 b3 b4 b5 b6 b7 b8:Nat}{d1 d2:Bool}(h1:Blk w b1 4 [.bool d1,.bool d2])(h2:Blk w b2 3 [.int .i64 0,.int .i64 1])(h3:Blk w b3 44 [.slice (some ⟨b2,0,none⟩) 2 2])(h4:Blk w b4 47 (Jd r1))(h5:Blk w b5 47 (Jd r2))(h6:Blk w b6 47 (Jd r3))(h7:Blk w b7 37 [.slice (some ⟨b4,0,none⟩) 2 2,.slice (some ⟨b5,0,none⟩) 2 2,.slice (some ⟨b6,0,none⟩) 2 2])(h8:Blk w b8 54 [.slice (some ⟨b7,0,none⟩) 3 3])(l1:r1.length=2)(l2:r2.length=2)(l3:r3.length=2):
  CseV w [.int .i64 2,.int .i64 2,.slice (some ⟨b1,0,none⟩) 2 2,.slice none 0 0,.slice (some ⟨b3,0,none⟩) 1 1,.slice (some ⟨b8,0,none⟩) 1 1] (Qc [d1,d2] r1 r2 r3):=by
 have C:IntsV w (.slice (some ⟨b2,0,none⟩) 2 2) [0,1]:=⟨some ⟨b2,0,none⟩,2,rfl,by decide,by decide,h2.rd rfl⟩;have u:RowsV w (.slice (some ⟨b7,0,none⟩) 3 3) [r1,r2,r3]:=by
  refine Qhw [(.slice (some ⟨b4,0,none⟩) 2 2,r1),(.slice (some ⟨b5,0,none⟩) 2 2,r2),(.slice (some ⟨b6,0,none⟩) 2 2,r3)] h7 (λp o=>?_) (by simp);simp only [List.mem_cons,List.not_mem_nil,or_false]at o;rcases o with rfl|rfl|rfl
  .have:=Jkd h4 om;rw [l1]at this;exact this
  .have:=Jkd h5 om;rw [l2]at this;exact this
  .have:=Jkd h6 om;rw [l3]at this;exact this
 refine ⟨some ⟨b1,0,none⟩,2,none,0,some ⟨b3,0,none⟩,1,some ⟨b8,0,none⟩,1,rfl,⟨some ⟨b1,0,none⟩,2,rfl,by simp [Qc],by simp [Qc],h1.rd rfl⟩,⟨none,0,rfl,Nat.le_refl _,Nat.zero_le _,Rd.nil⟩,
  ⟨some ⟨b3,0,none⟩,1,_,rfl,by simp [Qc],by simp [Qc],h3.rd rfl,λi hi=>?_⟩,⟨some ⟨b8,0,none⟩,1,_,rfl,by simp [Qc],by simp [Qc],h8.rd rfl,λi hi=>?_⟩,by simp [Qc],by simp [Qc]⟩
 .have:i=0:=by simp [Qc]at hi;exact hi
  subst this;exact ⟨_,rfl,C⟩
 .have:i=0:=by simp [Qc]at hi;exact hi
  subst this;exact ⟨_,rfl,u⟩
theorem Qjs(d:Bool): (exA d).F=2:=rfl
set_option linter.constructorNameAsVariable false in
theorem Qzz(hTB:TB B0 w): Ret Tryz.prog 20 [] w λu w'=>u=.bool true/\Ext w w':=by
 refine Jz Tryz.func20 Tryz.ntmps20 rfl kr rfl ?_;refine ρ ?_;refine bsl (bs2B _ _) ?_;intro w1 b1 d6 f4 dh;refine ρ ?_;refine Qd (fun (i:Nat)=>[(0,.bool false),(17,.slice (some ⟨b1,0,none⟩) 2 2),(18,.int .i64 2),(19,.int .i64 (i:Int))])
  (λi w'=>i<=2/\Ext w1 w') (λi=>2-i) 0 sB ⟨om,Ext.refl _⟩ ?_
 rintro i w2 ⟨hi,b6⟩;have aj:=d6.trans b6;refine ρ ?_;refine ci (λh=>?_) (λh=>?_)
 .have li:i<2:=by have:=oT h;omega
  clear h;have cr:Rd w2 1 (some ⟨b1,0,none⟩) 2 [Value.bool false,.bool true]:=(dh.rd rfl).ext b6;obtain ⟨d,hd⟩:∃ d:Bool,[Value.bool false,.bool true][i]?=some (.bool d):=by
   rcases (show i=0∨i=1 by omega) with rfl|rfl
   .exact ⟨false,rfl⟩
   .exact ⟨true,rfl⟩
  refine ρ ?_;refine ix i cr li ?_;refine ρ ?_;refine ld (cr.cell hd) ?_;refine ρ ?_;refine bsl (bs2B _ _) ?_;intro w3 b3 bw f3 dg;refine ρ ?_;refine bsl (bs2I _ _) ?_;intro w4 b4 d5 f2 df;refine ρ ?_;refine bsl (bs1II _ _ _) ?_;intro w5 b5 d4 f0 de;refine ρ ?_;refine cl (Vj 1 _) ?_;rintro _ w6 ⟨rfl,d3⟩;refine ρ ?_;refine cl (Vj 2 _) ?_;rintro _ w7 ⟨rfl,d2⟩;refine ρ ?_;refine bsl (Jjm _ _) ?_;intro w8 b8 d1 ez dd;refine ρ ?_;refine cl (Vj 1 _) ?_;rintro _ w9 ⟨rfl,d0⟩;refine ρ ?_;refine cl (Vj 3 _) ?_;rintro _ ep ⟨rfl,c8⟩;refine ρ ?_;refine bsl (Jjm _ _) ?_;intro eo fb c7 e1 cm;refine ρ ?_;refine cl (Vj 2 _) ?_;rintro _ en ⟨rfl,c6⟩;refine ρ ?_;refine cl (Vj 3 _) ?_;rintro _ em ⟨rfl,c5⟩;refine ρ ?_;refine bsl (Jjm _ _) ?_;intro el fa c4 e0 ck;refine ρ ?_;refine bsl (bs3R _ _ _ _ _ _ _ _ _) ?_;intro ek f9 c3 dz cj;refine ρ ?_;refine bsl (bs1RR _ _ _) ?_
  intro cy f8 ao dx ch;refine ρ ?_;refine bld (Qtt _ _ _ _ _ _ _ _ _ _) ?_;have bg:=c3.trans ao;have cx:=c4.trans bg;have bh:=(c6.trans c5).trans cx;have y8:=((d0.trans c8).trans c7).trans bh;have y5:=((d3.trans d2).trans d1).trans y8;have y4:=d4.trans y5;have y3:=d5.trans y4;have ay:=(aj.trans bw).trans y3;have hC:CseV cy _ (exA d):=Qhx (dg.ext y3) (df.ext y4) (de.ext y5) (r1:=nR 1 2) (r2:=nR 1 3) (r3:=nR 2 3) (dd.ext y8) (cm.ext bh) (ck.ext bg) (cj.ext ao) ch rfl rfl rfl;refine ρ ?_;refine cl (Qsk (hTB.ext ay) hC (Qnr d)) ?_;rintro u bj ⟨c0,di⟩;rcases di with ⟨_,db⟩|⟨ats,x,av,kf,pf,BB,tot,hOk,rfl,hIx,hav⟩
  .exact absurd (Qnq d) db
  obtain ⟨co,da,d9,d8⟩:=exA_ans' d;obtain ⟨XA,xd,YA,yd,ZA,zd,UA,ud,tv,et,er,rfl,_,_,_,_,_,_,d7,_⟩:=id hIx.ix.ex;obtain ⟨TA,tc,rfl,_⟩:=id d7;obtain ⟨LA,lc,ca,ey,ew,_⟩:=hav.parts;rw [co]at ca;subst ca;refine ρ ?_;refine alc Kd ?_;intro ej cv bz cn cg;refine ρ ?_;refine stW cg ?_;intro ag ap dt b7;have ad:Ext bj ag:=b7 bj bz cn;refine ρ ?_;have b2:Ext ag ag.drew:=(Ext.refl ag).drew;refine drN (λ_=>False) 13 [(0,0),(1,1),(1,2),(0,3),(0,4),(0,5),(0,6),(0,7),(0,8),(0,9)] kr ?_;refine ρn ?_;refine Xw (cs:=[.slice XA (exA d).F xd,.slice YA (exA d).F yd,.slice ZA (exA d).F zd,.slice UA (exA d).F ud,.slice TA (Jq tot).length tc]) (λw' hg j u hu=>((ap.ext b2).ext hg.toExt).at hu) ?_;refine ρn ?_;refine nop ?_;refine cl (Uf 1 (by decide) _) ?_;rintro o ei ⟨ho,_,ac⟩;refine ρ ?_;refine Js (GrN.ext ac) ?_;refine ρn ?_;refine nop ?_;have Z:=b2.trans ac;refine cl (Qkc (hIx.ext (ad.trans Z)) ho) ?_
  rintro u a9 ⟨a6,bf⟩;unfold AtR at bf;rw [da]at bf;obtain ⟨A1,c1,bm,rfl,h5,h6,h7,h8⟩:=bf;refine ρ ?_;refine Js (GrN.ext a6) ?_;refine ρn ?_;refine ρ ?_;have af:=((ap.ext b2).ext ac).ext a6;have ai:=hIx.ext ((ad.trans Z).trans a6);have U:Ext a9 a9.drew:=(Ext.refl a9).drew;refine drG kr ?_;refine Zo (fuel':=11) [(0,0)] (lst 12 1) kr kr rfl ?_;refine ρd ?_;refine Qz (cs:=[.slice XA (exA d).F xd,.slice YA (exA d).F yd,.slice ZA (exA d).F zd,.slice UA (exA d).F ud,.slice TA (Jq tot).length tc]) (λj u hu=>(af.ext U).at hu) ?_;refine ρd ?_;refine Zu ?_;refine gcut 8 (lst 12 4) (fun (q:Nat×Value)=>[(53,.agg #[.slice XA (exA d).F xd,.slice YA (exA d).F yd,.slice ZA (exA d).F zd,.slice UA (exA d).F ud,.slice TA (Jq tot).length tc]),(55,.slice (some ⟨q.1,0,none⟩) 1 1),(56,q.2),(0,.bool false),(2,.bool d),(3,.pointer (some ⟨cv,0,none⟩)),(4,.slice LA 3 lc),(5,.bool false),(6,.bool true),(7,.slice A1 (List.length (if d=true then nR 1 2 else nR 1 3)) c1),(8,.int .i64 (bm:Int)),(9,.int .i64 0),(17,.slice (some ⟨b1,0,none⟩) 2 2),(18,.int .i64 2),(19,.int .i64 (i:Int))])
   (λq W=>Ext a9 W/\Blk W q.1 47 (Jd [nV 1])/\NatV W q.2 1) ?_ ?_
  rotate_left
  .intro rest;refine Zo (fuel':=10) [(1,1)] (lst 12 2) kr kr rfl ?_;refine dcl (Vj 1 _) ?_;rintro _ v1 ⟨rfl,a2⟩;refine ⟨a2,?_⟩;refine Vx (Zu ?_);refine gtwo 2 3 kr rfl rfl rfl ?_ ?_
   .refine ρ ?_;refine bsl (bs1V _) ?_;intro v2 bp G be a3;refine Jh (Ks G ?_);refine Zo (fuel':=8) [(1,3)] (lst 12 4) kr kr rfl ?_;refine dcl (Uf 1 (by decide) _) ?_;rintro o2 v3 ⟨J,_,C⟩;refine ⟨C,?_⟩;refine Vx (Zu ?_);exact rest (bp,o2) _ _ ⟨((U.trans a2).trans G).trans C,a3.ext C,J⟩ sB
   .refine ρ ?_;refine cl (Uf 1 (by decide) _) ?_;rintro o2 v2 ⟨J,_,G⟩;refine Jh (Ks G ?_);refine Zo (fuel':=8) [(1,2)] (lst 12 4) kr kr rfl ?_;refine dbsl (bs1V _) ?_;intro v3 bp C be a3;refine Vx (Zu ?_);exact rest (bp,o2) _ _ ⟨((U.trans a2).trans G).trans C,a3,J.ext C⟩ sB
  rintro ⟨f6,o1⟩ e4 ⟨aa,ar,c9⟩;simp only at ar c9;have aw:=ai.ext aa;refine Zo (fuel':=0) [(1,4),(0,5),(0,6),(0,7),(0,8),(0,9),(0,10),(0,11)] (lst 12 12) kr kr rfl ?_;refine dcl (Jlw (y:=[nV 1]) aw (ar.rd rfl) c9) ?_;rintro u a7 ⟨a4,_,bb⟩;refine ⟨a4,?_⟩;have bd:=bb (by rw [Qjs];decide);unfold AcR at bd;rw [d9]at bd;obtain ⟨A2,c2,cz,rfl,e5,e6,e7,e8⟩:=bd;refine ρd ?_;refine Zu ?_;refine gend kr ?_;have ae:=(af.ext aa).ext a4;have ah:=aw.ext a4;refine ρ ?_;have O:Ext a7 a7.drew:=(Ext.refl a7).drew;refine drG kr ?_;refine Zo (fuel':=11) [(0,0)] (lst 12 1) kr kr rfl ?_;refine ρd ?_;refine Qz (cs:=[.slice XA (exA d).F xd,.slice YA (exA d).F yd,.slice ZA (exA d).F zd,.slice UA (exA d).F ud,.slice TA (Jq tot).length tc]) (λj u hu=>(ae.ext O).at hu) ?_;refine ρd ?_;refine Zu ?_;refine gcut 8 (lst 12 4) (fun (q:Nat×Value)=>[(62,.agg #[.slice XA (exA d).F xd,.slice YA (exA d).F yd,.slice ZA (exA d).F zd,.slice UA (exA d).F ud,.slice TA (Jq tot).length tc]),(64,.slice (some ⟨q.1,0,none⟩) 1 1),(65,q.2),(0,.bool false),(2,.bool d),(3,.pointer (some ⟨cv,0,none⟩)),(4,.slice LA 3 lc),(5,.bool false),(6,.bool true),(7,.slice A1 (List.length (if d=true then nR 1 2 else nR 1 3)) c1),(8,.int .i64 (bm:Int)),(9,.int .i64 0),(10,.slice A2 (nR 1 3).length c2),(11,.int .i64 (cz:Int)),(12,.int .i64 0),(17,.slice (some ⟨b1,0,none⟩) 2 2),(18,.int .i64 2),(19,.int .i64 (i:Int))])
   (λq W=>Ext a7 W/\Blk W q.1 47 (Jd [nV 2])/\NatV W q.2 1) ?_ ?_
  rotate_left
  .intro rest;refine Zo (fuel':=10) [(1,1)] (lst 12 2) kr kr rfl ?_;refine dcl (Vj 2 _) ?_;rintro _ v1 ⟨rfl,a2⟩;refine ⟨a2,?_⟩;refine Vx (Zu ?_);refine gtwo 2 3 kr rfl rfl rfl ?_ ?_
   .refine ρ ?_;refine bsl (bs1V _) ?_;intro v2 bp G be a3;refine Jh (Ks G ?_);refine Zo (fuel':=8) [(1,3)] (lst 12 4) kr kr rfl ?_;refine dcl (Uf 1 (by decide) _) ?_;rintro o2 v3 ⟨J,_,C⟩;refine ⟨C,?_⟩;refine Vx (Zu ?_);exact rest (bp,o2) _ _ ⟨((O.trans a2).trans G).trans C,a3.ext C,J⟩ sB
   .refine ρ ?_;refine cl (Uf 1 (by decide) _) ?_;rintro o2 v2 ⟨J,_,G⟩;refine Jh (Ks G ?_);refine Zo (fuel':=8) [(1,2)] (lst 12 4) kr kr rfl ?_;refine dbsl (bs1V _) ?_;intro v3 bp C be a3;refine Vx (Zu ?_);exact rest (bp,o2) _ _ ⟨((O.trans a2).trans G).trans C,a3,J.ext C⟩ sB
  rintro ⟨f5,o2⟩ e3 ⟨a5,aq,J⟩;simp only at aq J;have au:=ah.ext a5;refine Zo (fuel':=0) [(1,4),(0,5),(0,6),(0,7),(0,8),(0,9),(0,10),(0,11)] (lst 12 12) kr kr rfl ?_;refine dcl (Jlw (y:=[nV 2]) au (aq.rd rfl) J) ?_;rintro u e2 ⟨a1,_,ba⟩;refine ⟨a1,?_⟩;have bc:=ba (by rw [Qjs];decide);unfold AcR at bc;rw [d8]at bc;subst bc;refine ρd ?_;refine Zu ?_;refine gend kr ?_;have dc:=(ae.ext a5).ext a1;have cw:=au.ext a1;refine ρ ?_;refine cl (Vj 1 _) ?_;rintro _ eh ⟨rfl,an⟩;refine ρ ?_;refine cl (Vj 3 _) ?_;rintro _ eg ⟨rfl,am⟩;refine ρ ?_;refine bsl (Jjm _ _) ?_;intro bi dq ak dw ce;refine ρ ?_;refine Xa (fun (b:Nat)=>[(16,.slice (some ⟨b,0,none⟩) 2 2),(15,.int .i64 3),(10,.slice A2 (nR 1 3).length c2),(12,.int .i64 0),(4,.slice LA 3 lc),(5,.bool false),(6,.bool true),(7,.slice A1 (if d=true then nR 1 2 else nR 1 3).length c1),(9,.int .i64 0),(17,.slice (some ⟨b1,0,none⟩) 2 2),(18,.int .i64 2),(19,.int .i64 (i:Int)),(0,.bool false)])
   (λb w'=>Ext bi w'/\Blk w' b 47 (Jd (if d=true then nR 1 2 else nR 1 3))) ?_ ?_
  .refine ci (λh=>?_) (λh=>?_)
   .refine ρ ?_;refine cl (Vj 1 _) ?_;rintro _ ef ⟨rfl,bv⟩;refine ρ ?_;refine cl (Vj 2 _) ?_;rintro _ ee ⟨rfl,bu⟩;refine ρ ?_;refine bsl (Jjm _ _) ?_;intro ed dn bt dv cd;refine ρ ?_;exact Jb dn sB ⟨(bv.trans bu).trans bt,by rw [h,if_pos rfl];exact cd⟩
   .refine ρ ?_;exact Jb dq sB ⟨Ext.refl _,by rw [h,if_neg (by decide)];exact ce⟩
  rintro f7 a8 ⟨ab,cc⟩;have eu:Ext bi a8:=ab;have z1:Ext a9 a8:=((((((aa.trans a4).trans a5).trans a1).trans an).trans am).trans ak).trans ab;have z2:Ext a7 a8:=(((((a5.trans a1).trans an).trans am).trans ak)).trans ab;have b9:(if d=true then nR 1 2 else nR 1 3).length=2:=by split<;>rfl
  have dl:RowV a8 (.slice A1 (if d=true then nR 1 2 else nR 1 3).length c1) (if d=true then nR 1 2 else nR 1 3):=⟨A1,c1,rfl,h6,by rw [b9];decide,Rd.ext h5 z1⟩;have cq:=Jkd cc (by rw [b9];decide);rw [b9]at cq;refine ρ ?_;refine cl (Jvg dl cq) ?_;rintro _ ec ⟨rfl,bs⟩;rw [decide_eq_true rfl];refine ρ ?_;refine cl (Vj 1 _) ?_;rintro _ eb ⟨rfl,br⟩;refine ρ ?_;refine cl (Vj 3 _) ?_;rintro _ ea ⟨rfl,bq⟩;refine ρ ?_;refine bsl (Jjm _ _) ?_;intro ax dm bo du cb;have z3:Ext a8 ax:=((bs.trans br).trans bq).trans bo;have dk:RowV ax (.slice A2 (nR 1 3).length c2) (nR 1 3):=⟨A2,c2,rfl,e6,by decide,Rd.ext e5 (z2.trans z3)⟩;have dj:RowV ax (.slice (some ⟨dm,0,none⟩) 2 2) (nR 1 3):=Jkd (r:=nR 1 3) cb (by decide);refine ρ ?_;refine cl (Jvg dk dj) ?_;rintro _ e9 ⟨rfl,bn⟩;rw [decide_eq_true rfl];refine ρ ?_;refine Qw (i+1) sO ⟨om,?_⟩ om;exact ((((((b6.trans bw).trans y3).trans c0).trans (ad.trans Z)).trans a6).trans z1).trans (z3.trans bn)
 .refine ρ ?_;exact Jj ⟨rfl,aj⟩
end Go.Proofs.YtebcagekopgdhaaGreatDoor
namespace Go.Proofs.YtebcagekopgdhaaGreatDoor
open Go.RowKit Pl Go.Wk Go.ChangeShapes Go.WideShapes
section
variable {H:Type} {enc:TypeId×Value->H} {P:Program} {w:World} {base:Nat} {spare:Nat->Bool} {held:Bool} {B:Nat}
end
section
variable {H:Type} {enc:TypeId×Value->H} {w:World} {base b0:Nat} {spare:Nat->Bool} {held:Bool}
end
theorem gPow: Tryz.prog.globalNamed "internal/strconv.uint64pow10" = some 1:=kr
theorem gPowT: (Tryz.prog.globals[1]?).map (·.type)=some 315:=kr
theorem Qyr{W:World}(h:laidMetH Tryz.prog Rows.walkPiecesUptoRow.laid W): TB W.heap.size W:=by
 refine ⟨Nat.le_refl _,Lib.tabBelow_of_tabIs ?_⟩;have o:=h.filter (λx=>x.1 == "internal/strconv.uint64pow10");exact Lib.tabIs_of_head (rest:=[]) gPow gPowT Tryz.underlying315 Tryz.underlying22 kr kr o
def Jfj(d:DataW Unit): Obj->Obj
 | .cells _ t z=>.cells (match d with
  | .agg ps=>(ps.map fun
   | .lit (.int k z)=>Value.int k z
   | _=>Value.bool false).toArray
  | _=>#[]) t z
 | o=>o
open Go.RowKit Pl Go.Wk
attribute [local irreducible] WC WL QX WD WDB WP WN WG WH WM
theorem Qyp{k:Int}{n:Nat}(hk:0<=k)(hn:0<n): ∃ r:Nat,k.tmod (n:Int)=(r:Int)/\r<n:=by
 refine ⟨(k.tmod (n:Int)).toNat,?_,?_⟩
 .have:=Int.tmod_nonneg (a:=k) (n:Int) hk;omega
 .have u:=Int.tmod_nonneg (a:=k) (n:Int) hk;have o:=Int.tmod_lt_of_pos k (show (0:Int)<(n:Int) by omega);omega
end Go.Proofs.YtebcagekopgdhaaGreatDoor
namespace Go.Wk
open Go.RowKit
structure SF where
 p: Value->World->Prop
 st:∀ {v:Value} {w w':World},p v w->Ext w w'->p v w'
section
variable {P:Program} {n:Nat} {al:AL} {w:World} {Q:Exit->Act->World->Prop} {ops:Array Oper}
end
end Go.Wk
namespace Go.Proofs.YtebcagekopgdhaaGreatDoor
open Pl Go.Wk
variable {d:Bool}{ds:List Bool}{ts:List TA}{a b i k k' n p q v:Nat}{pf:Nat->Int}{y z:Row}
def dgV(d:Bool)(q:Nat): Nat:=if d then 7-q else q
def dgt(ds:List Bool)(n k i:Nat): Nat:=dgV (ds.getD i false) (k / 8^(n-1-i) % 8)
def Vd(ds:List Bool)(n k:Nat): Row:=(List.range n).map λi=>nV (dgt ds n k i:Nat)
def chL(ds:List Bool)(n:Nat): List Row:=(List.range (8^n)).map (Vd ds n)
theorem Qqb(h:q<8): dgV d q<8:=by unfold dgV;split<;>omega
theorem Qpp(h:q<8): dgV d (dgV d q)=q:=by unfold dgV;split<;>omega
theorem Gc: (Vd ds n k).length=n:=by simp [Vd]
theorem Jkt(h:i<n): (Vd ds n k).getD i V0=nV (dgt ds n k i:Nat):=by simp [Vd,List.getD,h]
theorem Qpn: dgt ds n k i<8:=Qqb (Nat.mod_lt _ (by decide))
theorem Ur: (chL ds n).length=8^n:=by simp [chL]
theorem Qxn(h:k<8^n): (chL ds n)[k]?=some (Vd ds n k):=by simp [chL,h]
theorem Qrm(h:a<b): cmpV (nV a) (nV b) = -1:=by
 have o:¬ ((a:Int)=(b:Int)):=om
 simp [cmpV,nV,o,sgn];omega
theorem cmpV_nV'(h:b<a): cmpV (nV a) (nV b)=1:=by
 have o:¬ ((a:Int)=(b:Int)):=om
 simp [cmpV,nV,o,sgn];omega
theorem Qgv(h:p<q)(hq:q<8): neg d (cmpV (nV (dgV d p:Nat)) (nV (dgV d q:Nat)))<0:=by
 cases d with
 | false=>
  show neg false (cmpV (nV (p:Nat)) (nV (q:Nat)))<0;rw [Qrm h];decide
 | true=>
  show neg true (cmpV (nV ((7-p:Nat):Int)) (nV ((7-q:Nat):Int)))<0;rw [cmpV_nV' om];decide
theorem Qnj(h:k<k')(h':k'<8^n): ∃ m,m<n/\(∀ i,i<m->k / 8^(n-1-i)=k' / 8^(n-1-i))/\k / 8^(n-1-m)<k' / 8^(n-1-m):=by
 have hn:0<n:=by
  rcases Nat.eq_zero_or_pos n with h0|h0
  .subst h0;simp at h';omega
  .exact h0
 have key:∀ s m,m+s=n-1->(∀ i,i<m->k / 8^(n-1-i)=k' / 8^(n-1-i))->∃ m,m<n/\(∀ i,i<m->k / 8^(n-1-i)=k' / 8^(n-1-i))/\k / 8^(n-1-m)<k' / 8^(n-1-m):=by
  intro s;induction s with
  | zero=>
   intro m o hi;refine ⟨m,om,hi,?_⟩;rw [show n-1-m=0 by omega];simpa using h
  | succ s ih=>
   intro m o hi;rcases Nat.lt_or_ge (k / 8^(n-1-m)) (k' / 8^(n-1-m)) with hl|hl
   .exact ⟨m,om,hi,hl⟩
   .refine ih (m+1) om λi u=>?_;rcases Nat.lt_or_ge i m with h1|h1
    .exact hi i h1
    .obtain rfl:i=m:=om
     exact Nat.le_antisymm (Nat.div_le_div_right (Nat.le_of_lt h)) hl
 exact key (n-1) 0 om λi hi=>by omega
theorem Qpk(h:k<k')(h':k'<8^n): Jw (Vd ds n k) (Vd ds n k') ds<0:=by
 obtain ⟨m,u,C,G⟩:=Qnj h h';have ht:(Vd ds n k).take m=(Vd ds n k').take m:=by
  unfold Vd;rw [<-List.map_take,<-List.map_take];refine List.map_congr_left λi hi=>?_;rw [Jpw om]at hi;have hi:=List.mem_range.1 hi;unfold dgt;rw [C i hi]
 refine Qqw ht (by rw [Gc];exact u) (by rw [Gc];exact u) ?_;rw [Jkt u,Jkt u];unfold dgt;refine Qgv ?_ (Nat.mod_lt _ (by decide));have o:k' / 8^(n-1-m)<8∨(0<m/\k / 8^(n-1-m) / 8=k' / 8^(n-1-m) / 8):=by
  rcases Nat.eq_zero_or_pos m with h0|h0
  .left
   subst h0;refine Nat.div_lt_of_lt_mul ?_;rw [show 8^(n-1-0)*8=8^n by rw [<-Nat.pow_succ];congr 1;omega];exact h'
  .right
   refine ⟨h0,?_⟩;have:=C (m-1) om;rw [show n-1-(m-1)=(n-1-m)+1 by omega,Nat.pow_succ,<-Nat.div_div_eq_div_mul,<-Nat.div_div_eq_div_mul]at this;exact this
 rcases o with o|⟨_,o⟩
 .rw [Nat.mod_eq_of_lt o,Nat.mod_eq_of_lt om];exact G
 .omega
theorem Jgv: Lt ds (chL ds n):=by
 unfold Lt chL;rw [List.pairwise_map,List.pairwise_iff_getElem];intro i j hi u o;rw [List.length_range]at hi u;rw [List.getElem_range,List.getElem_range];exact Qpk o u
def DgP(n:Nat)(y:Row): Prop:=y.length=n/\∀ i,i<n->∃ q:Nat,q<8/\y.getD i V0=nV (q:Nat)
theorem Jsb: ∀ (n:Nat) (f:Nat->Nat),(∀ i,i<n->f i<8)->∃ k,k<8^n/\∀ i,i<n->k / 8^(n-1-i) % 8=f i
 | 0,f,_=>⟨0,by decide,λi h=>om⟩
 | n+1,f,hf=>by
  obtain ⟨k,hk,h⟩:=Jsb n f λi hi=>hf i om;have h8:=hf n om;refine ⟨8*k+f n,by rw [Nat.pow_succ];omega,λi hi=>?_⟩;rcases Nat.lt_or_ge i n with h1|h1
  .rw [<-h i h1,show n+1-1-i=(n-1-i)+1 by omega,Nat.pow_succ,Nat.mul_comm (8^(n-1-i)) 8,<-Nat.div_div_eq_div_mul,show (8*k+f n) / 8=k by omega]
  .obtain rfl:i=n:=om
   rw [show i+1-1-i=0 by omega];simp;omega
theorem chL_mem: y∈chL ds n↔DgP n y:=by
 unfold chL;rw [List.mem_map];constructor
 .rintro ⟨k,_,rfl⟩;exact ⟨Gc,λi hi=>⟨_,Qpn,Jkt hi⟩⟩
 .rintro ⟨J,G⟩;have u:∀ i,∃ q:Nat,q<8/\(i<n->y.getD i V0=nV (q:Nat)):=λi=>by
   by_cases hi:i<n
   .obtain ⟨q,o,C⟩:=G i hi;exact ⟨q,o,λ_=>C⟩
   .exact ⟨0,by decide,λh=>absurd h hi⟩
  obtain ⟨k,O,h⟩:=Jsb n (λi=>dgV (ds.getD i false) (Classical.choose (u i))) λi _=>Qqb (Classical.choose_spec (u i)).1;refine ⟨k,List.mem_range.2 O,?_⟩;refine List.ext_getElem (by rw [Gc,J]) λi o C=>?_;rw [Gc]at o;rw [<-Jp V0 _ (by rw [Gc];exact o),<-Jp V0 _ C,Jkt o,(Classical.choose_spec (u i)).2 o];unfold dgt;rw [h i o,Qpp (Classical.choose_spec (u i)).1]
def chV(i:Nat): List Nat:=[i,i+1]
theorem pm2(i:Nat)(z:Row): pmR (chV i) z=[z.getD i V0,z.getD (i+1) V0]:=rfl
theorem pm2_dg: DgP 2 (pmR (chV i) z)↔(∃ q:Nat,q<8/\z.getD i V0=nV (q:Nat))/\∃ q:Nat,q<8/\z.getD (i+1) V0=nV (q:Nat):=by
 rw [pm2];constructor
 .intro h;exact ⟨h.2 0 (by decide),h.2 1 (by decide)⟩
 .intro h;refine ⟨rfl,λj o=>?_⟩;rcases (show j=0∨j=1 by omega) with rfl|rfl
  .exact h.1
  .exact h.2
theorem Qxm(hn:2<=n)(z:Row): Zk n (n-1) chV (λ_=>chL [] 2) z↔DgP n z:=by
 unfold Zk;constructor
 .rintro ⟨u,o⟩;refine ⟨u,λi hi=>?_⟩;rcases Nat.eq_zero_or_pos i with h0|h0
  .subst h0;exact (pm2_dg.1 (chL_mem.1 (o 0 om))).1
  .have:=(pm2_dg.1 (chL_mem.1 (o (i-1) om))).2;rw [show i-1+1=i by omega]at this;exact this
 .rintro ⟨u,o⟩;exact ⟨u,λi hi=>chL_mem.2 (pm2_dg.2 ⟨o i om,o (i+1) om⟩)⟩
theorem Qsc(hn:2<=n)(y:Row): y∈chL ds n↔∃ z,Zk n (n-1) chV (λ_=>chL [] 2) z/\z.take n=y:=by
 rw [chL_mem];constructor
 .intro h;exact ⟨y,(Qxm hn y).2 h,List.take_of_length_le (by rw [h.1];exact Nat.le_refl _)⟩
 .rintro ⟨z,o,rfl⟩;have:=(Qxm hn z).1 o;rw [List.take_of_length_le (by rw [this.1];exact Nat.le_refl _)];exact this
theorem Qrx(hn:2<=n)(u x:Nat): nb0 n (Xy (n-1) chV) u x=true↔u<n/\x<n/\(x=u+1∨u=x+1):=by
 simp only [nb0,Bool.and_eq_true,decide_eq_true_eq,bne_iff_ne,List.any_eq_true,Xy,List.mem_map,List.mem_range];constructor
 .rintro ⟨⟨G,J⟩,_,⟨i,hi,rfl⟩,o,C⟩;have o:=edgeOf_bit.1 o;have C:=edgeOf_bit.1 C;simp only [chV,List.mem_cons,List.not_mem_nil,or_false]at o C;omega
 .rintro ⟨G,J,o⟩;refine ⟨⟨G,om⟩,_,⟨min u x,om,rfl⟩,edgeOf_bit.2 ?_,edgeOf_bit.2 ?_⟩ <;>
  .simp only [chV,List.mem_cons,List.not_mem_nil,or_false];omega
theorem Jrz(hi:i<n): (Qv [] n).getD i 0=n-1-i:=by
 simp [Qv,List.getD,hi]
theorem Qxl{n:Nat}(hn:2<=n): ∀ (t:Nat),t<=n->∀ u x,u<n-t->(Ze (nb0 n (Xy (n-1) chV)) ((Qv [] n).take t) u x=true↔x<n-t/\(x=u+1∨u=x+1))
 | 0,_,u,x,hu=>by
  rw [List.take_zero];show nb0 n _ u x=true↔_;rw [Qrx hn];omega
 | t+1,ht,u,x,hu=>by
  have hl:(Qv [] n).length=n:=by simp [Qv]
  have ih:=Qxl hn t om;have e:(Qv [] n).take (t+1)=(Qv [] n).take t++[n-1-t]:=by rw [Qy 0 om,Jrz om]
  rw [e,Jdq];show Yr (n-1-t) (Ze _ ((Qv [] n).take t)) u x=true↔_;unfold Yr;have h1:=ih (n-1-t) u om;have h2:=ih u x om;have h3:=ih (n-1-t) x om;by_cases hc:Ze (nb0 n (Xy (n-1) chV)) ((Qv [] n).take t) (n-1-t) u=true
  .rw [if_pos hc];have hc:=h1.1 hc;simp only [Bool.and_eq_true,Bool.or_eq_true,h2,h3,bne_iff_ne];omega
  .rw [if_neg hc];have hc:=(not_congr h1).1 hc;rw [h2];omega
theorem Jgt{x:Nat}(hn:2<=n)(hv:v<n): Zb (nb0 n (Xy (n-1) chV)) (Qv [] n) v x=true↔x+1=v:=by
 have o:PermOk n n []:=⟨Nat.le_refl _,by simp,(λv h=>by cases h),List.nodup_nil⟩;unfold Zb;have e:pre (Qv [] n) v=(Qv [] n).take (n-1-v):=by
  have:=Jvr o.ond (i:=n-1-v) (by rw [o.olen];omega);rw [Jrz om,show n-1-(n-1-v)=v by omega]at this;exact this
 rw [e,Qxl hn (n-1-v) om v x om];omega
theorem Qxk(hn:2<=n){kf:Nat->Nat}(h:Jjt n (Xy (n-1) chV) (Qv [] n) kf pf)(hv:v<n): (∀ x,(kf v).testBit x=true↔x+1=v)/\pf v=(v:Int)-1:=by
 obtain ⟨_,J,G⟩:=h v hv;have u:∀ x,(kf v).testBit x=true↔x+1=v:=λx=>by rw [J];exact Jgt hn hv
 refine ⟨u,?_⟩;rcases G with ⟨e,o⟩|⟨p,e,hp,_⟩
 .rw [e];rcases Nat.eq_zero_or_pos v with h0|h0
  .omega
  .have:=o (v-1);have C:=(Jgt (x:=v-1) hn hv).2 om;rw [C]at this;cases this
 .have:=(Jgt hn hv).1 hp;omega
theorem Qsb(hn:2<=n)(h32:n<=32){kf:Nat->Nat}(h:Jjt n (Xy (n-1) chV) (Qv [] n) kf pf)(hv:v<n): ∀ x,x∈bk (kf v ||| 2^v) 32↔x=v∨x+1=v:=λx=>by
 have o:=(Qxk hn h hv).1 x;rw [bk_mem,Nat.testBit_or,Bool.or_eq_true,o,Nat.testBit_two_pow];simp only [decide_eq_true_eq];omega
theorem Qxj(hn:2<=n)(h32:n<=32)(hd:ds.length=n)(hl:ts.length=n-1)(ht:∀ i,i<ts.length->(ts.getD i ta0).2=⟨nz (chV i),2,chL [] 2⟩): BldI n n ds [] ts chV λ_=>chL [] 2:=by
 have a3:∀ r∈chL [] 2,∀ u∈r,∃ q:Nat,q<8/\u=nV (q:Nat):=λr C u G=>by
  obtain ⟨Z,U⟩:=chL_mem.1 C;obtain ⟨i,hi,e⟩:=List.getElem_of_mem G;obtain ⟨q,J,e2⟩:=U i om;rw [Jp V0 _ hi,e]at e2;exact ⟨q,J,e2⟩
 refine ⟨⟨h32,om,λi hi=>ht i hi,λi hi=>?_,λi hi u G=>?_,λv hv=>?_,λ_ _=>Jgv,λ_ _ r C=>(chL_mem.1 C).1,λ_ _=>by rw [Ur];decide⟩,⟨Nat.le_refl _,by simp,(λv h=>by cases h),List.nodup_nil⟩,hd,λi hi r C u G=>?_,λkf pf hB v hv=>⟨λl a4 hx=>?_,λi hi=>.inl (by rw [Ur];decide)⟩⟩
 .simp [chV,Qo]
 .simp only [chV,List.mem_cons,List.not_mem_nil,or_false]at G;omega
 .rcases Nat.lt_or_ge v (n-1) with Z|Z
  .exact ⟨v,om,by simp [chV]⟩
  .exact ⟨v-1,om,by simp only [chV,List.mem_cons,List.not_mem_nil,or_false];omega⟩
 .obtain ⟨q,J,rfl⟩:=a3 r C u G;exact ⟨rfl,Jsk om⟩
 .rw [hl]at hB hx;have hb:=Qsb hn h32 hB hv;have a5:(bk (kf v ||| 2^v) 32).length<=2:=by
   have a2:(bk (kf v ||| 2^v) 32).Nodup:=List.nodup_range.sublist List.filter_sublist;have:=Jzx (m:=[v,v-1]) a2 λx hx=>by
    have:=(hb x).1 hx;simp only [List.mem_cons,List.not_mem_nil,or_false];omega
   simpa using this
  have O:∀ x∈l,x∈chL [] 0++(chL [] 1++chL [] 2):=λx a1=>by
   obtain ⟨z,hz,rfl,hS⟩:=hx x a1;have hD:DgP (bk (kf v ||| 2^v) 32).length (pmR (bk (kf v ||| 2^v) 32) z):=by
    refine ⟨by simp [pmR],λi hi=>?_⟩;have hm:=(hb _).1 (getD_mem' 0 _ hi);have o:=(bk_mem.1 (getD_mem' 0 _ hi)).2;rw [Jzt hi];generalize (bk (kf v ||| 2^v) 32).getD i 0=u at hm o ⊢
    have G:u<n:=om
    rcases Nat.lt_or_ge u (n-1) with Z|Z
    .obtain ⟨r,C,hj⟩:=hS u Z;have U:=hj 0 (by simp [chV]) (by simpa [chV] using o);obtain ⟨q,J,e⟩:=(chL_mem.1 C).2 0 (by decide);exact ⟨q,J,by rw [<-e];simpa [chV] using U.symm⟩
    .obtain ⟨r,C,hj⟩:=hS (u-1) om;have e1:u-1+1=u:=om
     have U:=hj 1 (by simp [chV]) (by simpa [chV,e1] using o);obtain ⟨q,J,e⟩:=(chL_mem.1 C).2 1 (by decide);exact ⟨q,J,by rw [<-e];simpa [chV,e1] using U.symm⟩
   have h3:=chL_mem (ds:=[]) |>.2 hD;rcases (show (bk (kf v ||| 2^v) 32).length=0∨(bk (kf v ||| 2^v) 32).length=1∨(bk (kf v ||| 2^v) 32).length=2 by omega) with e|e|e<;>rw [e]at h3<;>simp [h3]
  have:=Jzx (Jdz a4) O;simp only [List.length_append,Ur]at this;omega
theorem Qrz{kf:Nat->Nat}{BB:Nat->List BkT}(hp:∀ v,v<n->pf v=(v:Int)-1)(m:Nat)(y:Row): (Xx n kf pf BB).others m y=1:=by
 unfold AX.others;have:∀ k,k<=n->Jf k (λc=>if m<c/\(Xx n kf pf BB).par c<m then (Xx n kf pf BB).T c y else 1)=1:=by
  intro k;induction k with
  | zero=>intro _;rfl
  | succ k ih=>
   intro o;rw [Jf,ih om,if_neg];rintro ⟨G,C⟩;have u:(Xx n kf pf BB).par k=(k:Int)-1:=hp k om;omega
 exact this n (Nat.le_refl _)
theorem Qlr{w:World}{x:Value}{kf:Nat->Nat}{R:Nat->List Row}(hTB:∃ B0,TB B0 w)(hn:2<=n)(h32:n<=32)(hd:ds.length=n)(hl:ts.length=n-1)(ht:∀ i,i<ts.length->(ts.getD i ta0).2=⟨nz (chV i),2,chL [] 2⟩)(hE:ElR n n ts.length (Xy ts.length chV) [] chV (λ_=>chL [] 2) kf pf R)(hV:IxV w x n ds kf pf (λu=>if Xe n pf (TV n n kf pf R ds (plO [] n)) (ts.map (·.2))=0 then [] else BBo n n kf pf R ds (plO [] n) u) (Xe n pf (TV n n kf pf R ds (plO [] n)) (ts.map (·.2)))):
  IxA w x n ds kf pf (BBx (Xe n pf (TV n n kf pf R ds (plO [] n)) (ts.map (·.2))) n n kf pf R ds (plO [] n)) (Xe n pf (TV n n kf pf R ds (plO [] n)) (ts.map (·.2))) (chL ds n):=by
 have O:=Qxj hn h32 hd hl ht;have o:∀ i,i<ts.length->((ts.map (·.2)).getD i a0).rows=chL [] 2:=λi hi=>by
  rw [show (ts.map (·.2)).getD i a0=(ts.getD i ta0).2 by simp [List.getD,hi],ht i hi]
 have J:=hE.ixP (ds:=ds) (tot:=Xe n pf (TV n n kf pf R ds (plO [] n)) (ts.map (·.2))) (hE.fits O) (ats:=ts.map (·.2)) (by rw [List.length_map]) o rfl Jgv (L:=chL ds n) (λy=>by rw [hl];exact Qsc hn y)
 refine ⟨hTB,hV.congr λv G=>by unfold BBx;rw [if_pos G],J,λ_ z _ _ _=>?_,λv b C=>hE.htb C⟩;have C:=hE.bags;rw [hl]at C;rw [Qrz (λv G=>(Qxk hn C G).2)];decide
end Go.Proofs.YtebcagekopgdhaaGreatDoor
