/- Part 8. -/
import Derived.Test.YtebcagekopgdhaaGreatDoorX07
import Derived.ProofKit
import Derived.OpenShut
import Derived.ShutString
import Derived.ChangeOld
import Derived.Deep.Slices
import Derived.Deep.Fields
import Derived.Test.YtebcagekopgdhaaGreatDoorRows
import Derived.LaidSub
import Derived.Lib.LaidTab
set_option linter.unusedVariables false
set_option maxRecDepth 100000
set_option maxHeartbeats 40000000
namespace Go.Proofs.YtebcagekopgdhaaGreatDoor
open Pl Go.Wk
variable {l out:List Row}{i k m n s v:Nat}{vars:Nat->List Nat}{rs:Nat->List Row}{g g':Nat->Row}{y z:Row}
theorem Jkc{α:Type}: ∀ {l m:List α},l.Nodup->(∀ x∈l,x∈m)->l.length<=m.length
 | [],_,_,_=>Nat.zero_le _
 | x::l,m,hn,hs=>by
  obtain ⟨a,b,rfl⟩:=List.append_of_mem (hs x mC);have hn':=List.nodup_cons.1 hn;have:=Jkc (l:=l) (m:=a++b) hn'.2 λy hy=>by
   have h1:=hs y (List.mem_cons_of_mem _ hy);rcases List.mem_append.1 h1 with h2|h2
   .exact List.mem_append_left _ h2
   .rcases List.mem_cons.1 h2 with rfl|h2
    .exact absurd hy hn'.1
    .exact List.mem_append_right _ h2
  simp only [List.length_append,List.length_cons]at this ⊢;omega
def Kt(rs:Nat->List Row): Nat->List (List Row)
 | 0=>[[]]
 | m+1=>(Kt rs m).flatMap λc=>(rs m).map λr=>c++[r]
theorem Qxn(rs:Nat->List Row): ∀ m,(Kt rs m).length=Jc m λi=>(rs i).length
 | 0=>rfl
 | m+1=>by
  rw [Kt,Jc,<-Qxn rs m];generalize Kt rs m=l
  induction l with
  | nil=>simp
  | cons c l ih=>rw [List.flatMap_cons,List.length_append,ih,List.length_map,List.length_cons,Nat.succ_mul,Nat.add_comm]
theorem Qxm{rs:Nat->List Row}(g:Nat->Row): ∀ m,(∀ i,i<m->g i∈rs i)->(List.range m).map g∈Kt rs m
 | 0,_=>by simp [Kt]
 | m+1,h=>by
  rw [List.range_succ,List.map_append,Kt,List.mem_flatMap];refine ⟨_,Qxm g m λi hi=>h i om,?_⟩;exact List.mem_map.2 ⟨g m,h m om,rfl⟩
theorem Qxk(F:(Nat->Row)->Row)(hF:∀ g g',(∀ i,i<m->g i=g' i)->F g=F g')(hn:l.Nodup)(h:∀ x∈l,∃ g:Nat->Row,(∀ i,i<m->g i∈rs i)/\x=F g):
  l.length<=Jc m λi=>(rs i).length:=by
 rw [<-Qxn];have:=Jkc (m:=(Kt rs m).map λc=>F λi=>c.getD i []) hn λx o=>by
  obtain ⟨g,u,rfl⟩:=h x o;refine List.mem_map.2 ⟨_,Qxm g m u,hF _ _ λi hi=>?_⟩;simp [List.getD,hi]
 rw [List.length_map]at this;exact this
theorem Jfp{ds:List Bool}(h:Lt ds l): l.Nodup:=h.imp fun {a b} hab e=>by rw [e,Ze]at hab;omega
def Ir(m:Nat)(vars:Nat->List Nat)(g:Nat->Row)(v:Nat): V:=match (List.range m).find? λi=>decide (v∈vars i) with
 | some i=>(g i).getD (lv (vars i) v) V0
 | none=>V0
theorem Jsq(h:∀ i,i<m->g i=g' i)(v:Nat): Ir m vars g v=Ir m vars g' v:=by
 unfold Ir;cases hf:(List.range m).find? λi=>decide (v∈vars i) with
 | none=>rfl
 | some i=>simp only;rw [h i (List.mem_range.1 (List.mem_of_find?_eq_some hf))]
theorem Jsp(hasc:∀ i,i<m->Qu (vars i))(hc:∃ i,i<m/\v∈vars i)(h:∀ i,i<m->∀ j,j<(vars i).length->(vars i).getD j 0=v->(g i).getD j V0=z.getD v V0): Ir m vars g v=z.getD v V0:=by
 unfold Ir;cases hf:(List.range m).find? λi=>decide (v∈vars i) with
 | none=>
  obtain ⟨i,hi,o⟩:=hc;have:=List.find?_eq_none.1 hf i (List.mem_range.2 hi);simp [o]at this
 | some i=>
  have hi:=List.mem_range.1 (List.mem_of_find?_eq_some hf);have o:v∈vars i:=by simpa using List.find?_some hf
  have:=Vn (hasc i hi) o;exact h i hi _ this.2.1 this.2.2
theorem Xqk(hasc:∀ i,i<m->Qu (vars i))(hc:∀ v,v<n->∃ i,i<m/\v∈vars i)(hs:s<2^n)(hl:Lt [] l)(h:∀ x∈l,∃ z:Row,z.length=n/\x=pmR (bk s 32) z/\Gt m vars rs s z): l.length<=Jc m λi=>(rs i).length:=by
 refine Qxk (F:=λg=>(bk s 32).map (Ir m vars g)) (λg g' u=>List.map_congr_left λv _=>Jsq u v) (Jfp hl) λx G=>?_;obtain ⟨z,Z,rfl,C⟩:=h x G;obtain ⟨g,u⟩:∃ g:Nat->Row,∀ i,i<m->g i∈rs i/\∀ j,j<(vars i).length->s.testBit ((vars i).getD j 0)=true->(g i).getD j V0=z.getD ((vars i).getD j 0) V0:=by
  refine ⟨λi=>if hi:i<m then Classical.choose (C i hi) else [],λi hi=>?_⟩;simp only [hi,dite_true];exact Classical.choose_spec (C i hi)
 refine ⟨g,λi hi=>(u i hi).1,?_⟩;unfold pmR;refine List.map_congr_left λv O=>?_;obtain ⟨J,o⟩:=bk_mem.1 O;refine (Jsp hasc (hc v (Jxz hs o)) λi hi j U e=>?_).symm;have:=(u i hi).2 j U (by rw [e];exact o);rw [e]at this;exact this
section
variable (m:Nat) (vars:Nat->List Nat) (rs:Nat->List Row)
def fitB(vl:List Nat)(r:Row): Bool:=(List.range m).all λi=>(rs i).any λx=>decide (pmR (Qe (vars i) (Xg vl &&& Xg (vars i))) x=pmR (Qe vl (Xg vl &&& Xg (vars i))) r)
def Jkv(v:Nat): List Row:=(List.range m).flatMap λi=>(List.range (vars i).length).flatMap λk=>if (vars i).getD k 0=v then (rs i).map λr=>[r.getD k V0] else []
def valR(v:Nat): List Row:=(Jkv m vars rs v).foldl (Jzw []) []
def Jzl(v:Nat): List V:=(valR m vars rs v).map λr=>r.getD 0 V0
def Jwz(vl:List Nat)(k:Nat)(out:List Row): List Row:=out.flatMap λr=>((Jzl m vars rs (vl.getD k 0)).map λx=>r++[x]).filter (fitB m vars rs (vl.take (k+1)))
def Gr(vl:List Nat): Nat->List Row
 | 0=>[[]]
 | k+1=>Jwz m vars rs vl k (Gr vl k)
def Jjg(n:Nat): List Row:=if n=0 then (if fitB m vars rs [] [] then [[]] else []) else Gr m vars rs (List.range n) n
end
section
variable {n m:Nat} {vars:Nat->List Nat} {rs:Nat->List Row}
theorem Jgr{ds:List Bool}: ∀ (ls:List Row) {done l:List Row},Zh ds done l->Zh ds (done++ls) (ls.foldl (Jzw ds) l)
 | [],done,l,h=>by simpa using h
 | r::ls,done,l,h=>by
  rw [List.foldl_cons];have:=Jgr ls (Qft (r:=r) h);rwa [List.append_assoc]at this
theorem Jwv(v:Nat): Zh [] (Jkv m vars rs v) (valR m vars rs v):=by
 have:=Jgr (ds:=[]) (Jkv m vars rs v) (done:=[]) (l:=[]) ⟨List.Pairwise.nil,λx=>Iff.rfl⟩;rwa [List.nil_append]at this
theorem enumV_mem: y∈Jkv m vars rs v↔∃ i,i<m/\∃ k,k<(vars i).length/\(vars i).getD k 0=v/\∃ r∈rs i,y=[r.getD k V0]:=by
 unfold Jkv;simp only [List.mem_flatMap,List.mem_range];constructor
 .rintro ⟨i,hi,k,u,h⟩;split at h
  .rename_i e;obtain ⟨r,o,rfl⟩:=List.mem_map.1 h;exact ⟨i,hi,k,u,e,r,o,rfl⟩
  .cases h
 .rintro ⟨i,hi,k,u,e,r,o,rfl⟩;exact ⟨i,hi,k,u,by rw [if_pos e];exact List.mem_map.2 ⟨r,o,rfl⟩⟩
theorem valL_mem{x:V}: x∈Jzl m vars rs v↔∃ i,i<m/\∃ k,k<(vars i).length/\(vars i).getD k 0=v/\∃ r∈rs i,x=r.getD k V0:=by
 unfold Jzl;rw [List.mem_map];constructor
 .rintro ⟨y,C,rfl⟩;obtain ⟨i,hi,k,u,e,r,o,rfl⟩:=enumV_mem.1 (((Jwv v).2 y).1 C);exact ⟨i,hi,k,u,e,r,o,rfl⟩
 .rintro ⟨i,hi,k,u,e,r,o,rfl⟩;exact ⟨_,((Jwv v).2 _).2 (enumV_mem.2 ⟨i,hi,k,u,e,r,o,rfl⟩),rfl⟩
theorem Jnk(hy:y∈valR m vars rs v): ∃ x,y=[x]:=by
 obtain ⟨i,hi,k,u,e,r,o,rfl⟩:=enumV_mem.1 (((Jwv v).2 y).1 hy);exact ⟨_,rfl⟩
theorem Qyv(v:Nat): (Jzl m vars rs v).Nodup:=by
 unfold Jzl List.Nodup;rw [List.pairwise_map];refine List.Pairwise.imp_of_mem (fun {a b} ha hb hab e=>?_) (Jwv (m:=m) (vars:=vars) (rs:=rs) v).1;obtain ⟨x,rfl⟩:=Jnk ha;obtain ⟨y,rfl⟩:=Jnk hb;simp only [List.getD_cons_zero]at e;subst e;rw [Ze]at hab;omega
theorem Qnz{α β:Type}{f:α->List β}{l:List α}(h1:l.Nodup)(h2:∀ a∈l,(f a).Nodup)(h3:∀ a∈l,∀ b∈l,∀ x,x∈f a->x∈f b->a=b): (l.flatMap f).Nodup:=by
 induction l with
 | nil=>exact List.Pairwise.nil
 | cons a l ih=>
  obtain ⟨U,O⟩:=List.nodup_cons.1 h1;rw [List.flatMap_cons,List.nodup_append];refine ⟨h2 a mC,ih O (λb o=>h2 b (List.mem_cons_of_mem _ o)) (λb o c J=>h3 b (List.mem_cons_of_mem _ o) c (List.mem_cons_of_mem _ J)),λx G y C e=>?_⟩;subst e;obtain ⟨b,o,u⟩:=List.mem_flatMap.1 C;have:=h3 a mC b (List.mem_cons_of_mem _ o) x G u;subst this;exact U o
theorem Qcq{vl:List Nat}(h:out.Nodup): (Jwz m vars rs vl k out).Nodup:=by
 unfold Jwz;refine Qnz h (λr _=>?_) λa _ b _ x u o=>?_
 .refine List.Pairwise.sublist List.filter_sublist ?_;show (List.map _ _).Nodup;unfold List.Nodup;rw [List.pairwise_map];refine (Qyv (m:=m) (vars:=vars) (rs:=rs) (vl.getD k 0)).imp fun {x y} hxy e=>hxy ?_
  have:=List.append_cancel_left e;simpa using this
 .obtain ⟨G,O,rfl⟩:=List.mem_map.1 (List.mem_filter.1 u).1;obtain ⟨C,J,e⟩:=List.mem_map.1 (List.mem_filter.1 o).1;have:=congrArg List.dropLast e;simpa using this.symm
theorem Qkw(vl:List Nat): ∀ k,(Gr m vars rs vl k).Nodup
 | 0=>by simp [Gr]
 | k+1=>Qcq (Qkw vl k)
def Gs(m:Nat)(vars:Nat->List Nat)(rs:Nat->List Row)(k:Nat)(z:Row): Prop:=∀ i,i<m->∃ x∈rs i,∀ j,j<(vars i).length->(vars i).getD j 0<k->x.getD j V0=z.getD ((vars i).getD j 0) V0
theorem Jsb{n:Nat}(h:i<n): (List.range n).getD i 0=i:=by simp [List.getD,h]
theorem Qsb(k s:Nat): Qe (List.range k) s=(List.range k).filter λu=>s.testBit u:=by
 unfold Qe;rw [List.length_range];exact List.filter_congr λu o=>by rw [Jsb (List.mem_range.1 o)]
theorem Xqs{l:List Nat}{p:Nat->Bool}(ha:Qu l)(hp:∀ u,p u=true↔u∈l): (List.range k).filter p=l.filter λu=>decide (u<k):=by
 have key:∀ {a b:List Nat},Qu a->Qu b->(∀ u,u∈a↔u∈b)->a=b:=by
  intro a;induction a with
  | nil=>
   intro b _ _ h;cases b with
   | nil=>rfl
   | cons y b=>have:=(h y).2 mC;cases this
  | cons x a ih=>
   intro b ha O h;cases b with
   | nil=>have:=(h x).1 mC;cases this
   | cons y b=>
    obtain ⟨J,a2⟩:=List.pairwise_cons.1 ha;obtain ⟨G,b2⟩:=List.pairwise_cons.1 O;have C:x=y:=by
     have Z:=(h x).1 mC;have U:=(h y).2 mC;rcases List.mem_cons.1 Z with h3|h3
     .exact h3
     .rcases List.mem_cons.1 U with h4|h4
      .exact h4.symm
      .have:=J y h4;have:=G x h3;omega
    subst C;rw [ih a2 b2 λu=>?_];constructor
    .intro o;rcases List.mem_cons.1 ((h u).1 (List.mem_cons_of_mem _ o)) with h3|h3
     .subst h3;have:=J u o;omega
     .exact h3
    .intro o;rcases List.mem_cons.1 ((h u).2 (List.mem_cons_of_mem _ o)) with h3|h3
     .subst h3;have:=G u o;omega
     .exact h3
 refine key (List.Pairwise.sublist List.filter_sublist List.pairwise_lt_range) (List.Pairwise.sublist List.filter_sublist ha) λu=>?_;simp only [List.mem_filter,List.mem_range,decide_eq_true_eq,hp];exact ⟨λh=>⟨h.2,h.1⟩,λh=>⟨h.2,h.1⟩⟩
theorem Jgv(hasc:∀ i,i<m->Qu (vars i))(hlen:∀ i,i<m->∀ r∈rs i,r.length=(vars i).length)(k:Nat)(z:Row): fitB m vars rs (List.range k) z=true↔Gs m vars rs k z:=by
 unfold fitB Gs;simp only [List.all_eq_true,List.mem_range,List.any_eq_true,decide_eq_true_eq];refine ⟨λh i hi=>?_,λh i hi=>?_⟩;all_goals
  have o:∀ u,(Xg (List.range k) &&& Xg (vars i)).testBit u=true↔u<k/\u∈vars i:=λu=>by
   rw [Nat.testBit_and,Bool.and_eq_true,edgeOf_bit,edgeOf_bit,List.mem_range]
  obtain ⟨x,O,e⟩:=h i hi;refine ⟨x,O,?_⟩;have U:Qe (List.range k) (Xg (List.range k) &&& Xg (vars i))=inS (vars i) (Xg (List.range k) &&& Xg (vars i)):=by
   rw [Qsb];have:(List.range k).filter (λu=>(Xg (List.range k) &&& Xg (vars i)).testBit u)=(List.range k).filter λu=>decide (u∈vars i):=List.filter_congr λu J=>by
    rw [Bool.eq_iff_iff,o u,decide_eq_true_eq];exact ⟨λh=>h.2,λh=>⟨List.mem_range.1 J,h⟩⟩
   rw [this,Xqs (hasc i hi) λu=>by simp];unfold inS;refine List.filter_congr λu J=>?_;rw [Bool.eq_iff_iff,o u,decide_eq_true_eq];exact ⟨λh=>⟨h,J⟩,λh=>h.1⟩
  have G:=Jhh (vars:=vars i) (s:=Xg (List.range k) &&& Xg (vars i)) (r:=x) (z:=z) (hlen i hi x O) (vars i).length (Nat.le_refl _);rw [List.take_length]at G;have e3:Za (vars i) (Xg (List.range k) &&& Xg (vars i)) (vars i).length=Qe (vars i) (Xg (List.range k) &&& Xg (vars i)):=rfl;rw [e3]at G
 .rw [U]at e;intro j C Z;exact G.1 e j C ((o _).2 ⟨Z,getD_mem' 0 _ C⟩)
 .rw [U];exact G.2 λj C hb=>e j C ((o _).1 hb).1
theorem Qpg{l:Nat}(hkl:k<=l): Gs m vars rs k (z.take l)↔Gs m vars rs k z:=by
 unfold Gs;refine forall_congr' λi=>forall_congr' λhi=>exists_congr λx=>and_congr_right λu=>forall_congr' λj=>forall_congr' λC=>?_;refine ⟨λh o=>?_,λh o=>?_⟩
 .have:=h o;rwa [Pl.getD_take V0 om]at this
 .rw [Pl.getD_take V0 om];exact h o
theorem Jld(hasc:∀ i,i<m->Qu (vars i))(hlen:∀ i,i<m->∀ r∈rs i,r.length=(vars i).length)(hn:∀ v,v<n->∃ i,i<m/\v∈vars i): ∀ k,k<=n->∀ z:Row,z∈Gr m vars rs (List.range n) k↔z.length=k/\(k=0∨Gs m vars rs k z)
 | 0,_,z=>by
  rw [Gr,List.mem_singleton];exact ⟨λh=>by subst h;exact ⟨rfl,.inl rfl⟩,λh=>List.eq_nil_of_length_eq_zero h.1⟩
 | k+1,hk,z=>by
  have ih:=Jld hasc hlen hn k om;rw [Gr];unfold Jwz;rw [Jsb om,Jrz om];simp only [List.mem_flatMap,List.mem_filter,List.mem_map];constructor
  .rintro ⟨r,hr,⟨x,hx,rfl⟩,hf⟩;have h1:=(ih r).1 hr;exact ⟨by simp [h1.1],.inr ((Jgv hasc hlen (k+1) _).1 hf)⟩
  .rintro ⟨hl,h⟩;have hf:Gs m vars rs (k+1) z:=h.resolve_left om;have hz:z=z.take k++[z.getD k V0]:=Jpn V0 hl;refine ⟨z.take k,(ih _).2 ⟨by rw [List.length_take];omega,?_⟩,⟨z.getD k V0,?_,hz.symm⟩,(Jgv hasc hlen (k+1) _).2 hf⟩
   .refine .inr ((Qpg (Nat.le_refl _)).2 λi hi=>?_);obtain ⟨x,hx,h1⟩:=hf i hi;exact ⟨x,hx,λj hj hjk=>h1 j hj om⟩
   .obtain ⟨i,hi,hv⟩:=hn k om;obtain ⟨x,hx,h1⟩:=hf i hi;have h2:=Vn (hasc i hi) hv;refine valL_mem.2 ⟨i,hi,_,h2.2.1,h2.2.2,x,hx,?_⟩;have:=h1 _ h2.2.1 (by rw [h2.2.2];omega);rw [h2.2.2]at this;exact this.symm
theorem Xqm(hasc:∀ i,i<m->Qu (vars i))(hlen:∀ i,i<m->∀ r∈rs i,r.length=(vars i).length)(hn:∀ v,v<n->∃ i,i<m/\v∈vars i)(hk:k<=n): (Gr m vars rs (List.range n) k).length<=max 1 (Jc m λi=>(rs i).length):=by
 by_cases h0:k=0
 .subst h0;simp only [Gr,List.length_singleton];omega
 .refine nL (Qxk (F:=λg=>(List.range k).map (Ir m vars g)) (λg g' o=>List.map_congr_left λv _=>Jsq o v) (Qkw _ k) λx G=>?_) (Nat.le_max_right _ _);obtain ⟨h1,Z⟩:=(Jld hasc hlen hn k hk x).1 G;have C:Gs m vars rs k x:=Z.resolve_left h0;obtain ⟨g,o⟩:∃ g:Nat->Row,∀ i,i<m->g i∈rs i/\∀ j,j<(vars i).length->(vars i).getD j 0<k->(g i).getD j V0=x.getD ((vars i).getD j 0) V0:=by
   refine ⟨λi=>if hi:i<m then Classical.choose (C i hi) else [],λi hi=>?_⟩;simp only [hi,dite_true];exact Classical.choose_spec (C i hi)
  refine ⟨g,λi hi=>(o i hi).1,?_⟩;apply List.ext_getElem
  .simp [h1]
  .intro v u J;have O:=Jsp (g:=g) (z:=x) hasc (hn v om) λi hi j U e=>by
    have:=(o i hi).2 j U om;rw [e]at this;exact this
   rw [List.getElem_map,List.getElem_range,O];simp [List.getD,u]
theorem Qjj(hasc:∀ i,i<m->Qu (vars i))(hlen:∀ i,i<m->∀ r∈rs i,r.length=(vars i).length)(hlt:∀ i,i<m->∀ v∈vars i,v<n)(hn:∀ v,v<n->∃ i,i<m/\v∈vars i)(z:Row): z∈Jjg m vars rs n↔Zz n m vars rs z:=by
 have key:z.length=n->(Gs m vars rs n z↔∀ i,i<m->pmR (vars i) z∈rs i):=λu=>by
  constructor
  .intro h i hi;obtain ⟨x,J,G⟩:=h i hi;have:pmR (vars i) z=x:=by
    apply List.ext_getElem
    .rw [Qo,hlen i hi x J]
    .intro j o h3;rw [Qo]at o;have Z:(vars i).getD j 0<n:=hlt i hi _ (getD_mem' 0 _ o);have O:=G j o Z;have e1:(vars i).getD j 0=(vars i)[j]:=by simp [List.getD,o]
     have e2:x.getD j V0=x[j]:=by simp [List.getD,h3]
     rw [e1,e2]at O;simp only [pmR,List.getElem_map];exact O.symm
   rw [this];exact J
  .intro h i hi;refine ⟨_,h i hi,λj U _=>?_⟩;unfold pmR;simp [List.getD,U]
 unfold Jjg Zz;split
 .rename_i h0;subst h0;have C:=Jgv (vars:=vars) (rs:=rs) hasc hlen 0 [];rw [List.range_zero]at C;constructor
  .intro h;split at h
   .rename_i hb;rw [List.mem_singleton.1 h];exact ⟨rfl,(by have:=key;rw [List.mem_singleton.1 h]at this;exact (this rfl).1 (C.1 hb))⟩
   .cases h
  .rintro ⟨G,o⟩;have u:z=[]:=List.eq_nil_of_length_eq_zero G;subst u;rw [if_pos (C.2 ((key rfl).2 o))];exact List.mem_singleton.2 rfl
 .rename_i h0;rw [Jld hasc hlen hn n (Nat.le_refl _) z];exact and_congr_right λu=>⟨λh=>(key u).1 (h.resolve_left h0),λh=>.inr ((key u).2 h)⟩
theorem Qmm(hasc:∀ i,i<m->Qu (vars i))(hlen:∀ i,i<m->∀ r∈rs i,r.length=(vars i).length)(hn:∀ v,v<n->∃ i,i<m/\v∈vars i): (Jjg m vars rs n).length<=max 1 (Jc m λi=>(rs i).length):=by
 unfold Jjg;split
 .split<;>simp<;>omega
 .exact Xqm hasc hlen hn (Nat.le_refl _)
end
open Go.RowKit Pl Go.Wk
attribute [local irreducible] WC WL QX WD WDB WP WN WG WH
structure RInM(w:World)(VA RA:Option Addr)(m:Nat)(vars:Nat->List Nat)(rs:Nat->List Row): Prop where
 v:∃ cs,Rd w 1 VA m cs/\∀ i,i<m->∃ u,cs[i]?=some u/\IntsV w u (nz (vars i))
 r:∃ cs,Rd w 1 RA m cs/\∀ i,i<m->∃ u,cs[i]?=some u/\RowsV w u (rs i)
structure RefP(n m:Nat)(vars:Nat->List Nat)(rs:Nat->List Row): Prop where
 n32:n<=32
 m32:m<=32
 asc:∀ i,i<m->Qu (vars i)
 lt:∀ i,i<m->∀ v∈vars i,v<n
 len:∀ i,i<m->∀ r∈rs i,r.length=(vars i).length
 cov:∀ v,v<n->∃ i,i<m/\v∈vars i
 cnt:max 1 (Jc m λi=>(rs i).length)<=5000
 row:∀ i,i<m->(rs i).length<=10
section
variable {n f:Int} {pA VA RA:Option Addr} {pn pc vc rc N m:Nat} {vars:Nat->List Nat} {rs:Nat->List Row} {w:World}
end
open Go.RowKit Pl Go.Wk
attribute [local irreducible] WM
def ansF(m:Nat)(vars:Nat->List Nat)(rs:Nat->List Row)(n f:Nat)(ds:List Bool): List Row:=((Jjg m vars rs n).map (List.take f)).foldl (Jzw ds) []
theorem Qwh(m:Nat)(vars:Nat->List Nat)(rs:Nat->List Row)(n f:Nat)(ds:List Bool): Zh ds ((Jjg m vars rs n).map (List.take f)) (ansF m vars rs n f ds):=by
 have:=Jgr (ds:=ds) ((Jjg m vars rs n).map (List.take f)) (done:=[]) (l:=[]) ⟨List.Pairwise.nil,λx=>Iff.rfl⟩;rwa [List.nil_append]at this
section
variable {n f:Int} {pA VA RA:Option Addr} {pn pc vc rc N m:Nat} {vars:Nat->List Nat} {rs:Nat->List Row} {w:World}
end
open Go.RowKit Pl Go.Wk
structure Cse where
 n: Int
 f:Int
 ds:List Bool
 pm:List Int
 vs:List (List Int)
 rss:List (List Row)
structure FewP(c:Cse): Prop where
 row:∀ i,i<c.rss.length->(c.rss.getD i []).length<=10
 cnt:(Jc c.rss.length λi=>max 1 (c.rss.getD i []).length)<=5000
 n6:c.n<=6∨32<c.n
 v5:c.vs.length<=5
 r5:c.rss.length<=5
structure FewS(c:Cse): Prop where
 row:∀ i,i<c.rss.length->(c.rss.getD i []).length<=10
 cnt:(Jc c.rss.length λi=>max 1 (c.rss.getD i []).length)<=5000
 n6:c.n<=6
 v5:c.vs.length<=5
 r5:c.rss.length<=5
 v8:∀ i,i<c.vs.length->(c.vs.getD i []).length<=8
 d10:c.ds.length<=10
 p10:c.pm.length<=10
end Go.Proofs.YtebcagekopgdhaaGreatDoor
namespace Go.Wk
open Go.RowKit
variable {b bytes d n t ty:Nat}
section
variable {α:Type} {E:TypeId} {sz base:Nat} {Φ:World->List Value->α->Prop} {N0:Nat->Prop} {w w':World} {v:Value} {ls:List α}
def OwnM(E:TypeId)(sz:Nat)(Φ:World->List Value->α->Prop)(N0:Nat->Prop)(w:World)(base:Nat)(v:Value)(ls:List α): Prop :=
 ∃ ps:List (List Value×α),ls=ps.map (·.2)/\w.ownsRow base E sz v ps.length (Qj ps)/\∀ p∈ps,p.1.length=sz/\Off (λk=>N0 k∨v.ownBlock=some k) w (λu=>Φ u p.1 p.2)
theorem OwnM.nil(w:World)(base:Nat): OwnM E sz Φ N0 w base (.slice none 0 0) []:=⟨[],rfl,Zk _ _ _ _,λp o=>by cases o⟩
theorem OwnM.gr(h:OwnM E sz Φ N0 w base v ls)(hg:GrN N0 w w')(hN:∀ g,v.ownBlock=some g->¬ N0 g): OwnM E sz Φ N0 w' base v ls:=by
 obtain ⟨ps,J,G,u⟩:=h;exact ⟨ps,J,Jr G hg hN,λp o=>⟨(u p o).1,(u p o).2.gr (hg.mono λk _ C=>.inl C)⟩⟩
theorem OwnM.ext(h:OwnM E sz Φ N0 w base v ls)(hx:Ext w w'): OwnM E sz Φ N0 w' base v ls:=by
 obtain ⟨ps,G,C,u⟩:=h;exact ⟨ps,G,Jw C hx,λp o=>⟨(u p o).1,(u p o).2.ext hx⟩⟩
theorem OwnM.form(h:OwnM E sz Φ N0 w base v ls): ∃ A c,v=.slice A ls.length c/\ls.length<=c/\∀ g,v.ownBlock=some g->base<=g/\g<w.heap.size:=by
 obtain ⟨ps,rfl,C,G⟩:=h;obtain ⟨A,c,rfl,u,o⟩:=Jy C;exact ⟨A,c,by simp,by simpa using u,o⟩
theorem OwnM.gv(h:OwnM E sz Φ N0 w base v ls)(hm:ls.length<=1100000): GV sz Φ w v ls:=by
 obtain ⟨ps,rfl,C,u⟩:=h;obtain ⟨A,c,rfl,G,J⟩:=Jy C;exact ⟨ps,A,c,rfl,rfl,G,by simpa using hm,Rd.own C,λp o=>⟨(u p o).1,(u p o).2.here⟩⟩
theorem apM{P:Program}{al:AL}{Q:Exit->Act->World->Prop}{ops:Array Oper}{rest:List Oper}{pos:String}{aft:Array Edge}{z:Value}(hE:ElT P t E sz bytes z){x y:Operand}{cs:List Value}{a:α}(ho:OwnM E sz Φ N0 w base v ls)(hb:Blk w b E cs)(hl:cs.length=sz)(h1:∀ u∈cs,u.oneCell'=true)(hΦ:Off (λk=>N0 k∨v.ownBlock=some k) w (λu=>Φ u cs a))(hm:ls.length<=1100000)(hby:bytes<=64)(hbase:base<=w.heap.size)(kk:∀ v' w',OwnM E sz Φ N0 w' base v' (ls++[a])->w.grownBy w' v.ownBlock->(∀ g,v'.ownBlock=some g->v.ownBlock=some g∨w.heap.size<=g)->WL P n ops Q rest ((d,v')::al) w')(hx:ev al x=some v:=by rfl)(hy:ev al y=some (.slice (some ⟨b,0,none⟩) 1 1):=by rfl)(hd:Nat.blt d n=true:=by rfl):
  WL P n ops Q (⟨some d,.call { callee:=.builtin .append,args:=#[x,y],argTypes:=#[t,t] },ty,pos,aft,none⟩::rest) al w:=by
 obtain ⟨ps,e,hr,hp⟩:=ho;have a1:ps.length<=1100000:=by rw [e,List.length_map]at hm;exact hm
 have a2:(ps.length+1)*bytes<=1100001*64:=Nat.mul_le_mul om hby;refine apb hE hr (hb.rd (n:=1) om) h1 (by unfold maxLen;omega) om hbase ?_ hx hy hd;intro v' w' Z O J;have C:∀ {Ψ:World->Prop},Off (λk=>N0 k∨v.ownBlock=some k) w Ψ->Off (λk=>N0 k∨v'.ownBlock=some k) w' Ψ:=fun {Ψ} h W hW=>by
  refine h W ?_;have h1:GrN (λk=>(N0 k∨v.ownBlock=some k)∨w.heap.size<=k) w W:=(GrN.by O λk G=>.inl (.inr G)).trans (hW.mono λk _ G=>by
   rcases G with G|G
   .exact .inl (.inl G)
   .rcases J k G with o|o
    .exact .inl (.inr o)
    .exact .inr o)
  exact h1.mono λk G h=>h.elim id λo=>by omega
 refine kk v' w' ⟨ps++[(cs,a)],by rw [e];simp,?_,λp U=>?_⟩ O J
 .have e2:Qj (ps++[(cs,a)])=Qj ps++cs:=by simp [Qj]
  rw [List.length_append,e2];exact Z
 .rcases List.mem_append.1 U with o|o
  .exact ⟨(hp p o).1,C (hp p o).2⟩
  .rw [List.mem_singleton.1 o];exact ⟨hl,C hΦ⟩
end
end Go.Wk
namespace Go.Proofs.YtebcagekopgdhaaGreatDoor
open Go.RowKit Pl Go.Wk
attribute [local irreducible] WC WL QX WD WDB WP WN WG WH WM
theorem zInp: Qp Tryz.prog 92=some (.agg #[.int .i64 0,.int .i64 0,.slice none 0 0,.slice none 0 0,.slice none 0 0]):=kr
structure MkA(a:Atm)(zs:List Int)(rows:List Row): Prop where
 vars:a.vars=zs
 ar:a.ar=zs.length
 l32:zs.length<=32
 ok:∀ r∈rows,r.length=zs.length/\r.all Xj=true
 len:a.rows.length<=65536
 sub:∀ x∈a.rows,x∈rows
 set:rows.length<=1000->Zh [] rows a.rows
structure MkS(c:Cse): Prop where
 len:c.vs.length=c.rss.length
 l32:∀ i,i<c.vs.length->(c.vs.getD i []).length<=32
 ok:∀ i,i<c.vs.length->∀ r∈c.rss.getD i [],r.length=(c.vs.getD i []).length/\r.all Xj=true
 row:∀ i,i<c.vs.length->(c.rss.getD i []).length<=65536
end Go.Proofs.YtebcagekopgdhaaGreatDoor
namespace Go.Proofs.YtebcagekopgdhaaGreatDoor
open Pl Go.Wk
noncomputable def BBx(tot n f:Nat)(kf:Nat->Nat)(pf:Nat->Int)(R:Nat->List Row)(ds:List Bool)(pl:Nat->Nat)(u:Nat): List BkT:=if u<f then (if tot=0 then [] else BBo n f kf pf R ds pl u) else []
section
variable {n f m:Nat} {es perm:List Nat} {vars:Nat->List Nat} {rs:Nat->List Row} {kf:Nat->Nat} {pf:Nat->Int} {R:Nat->List Row} {ds:List Bool} {ats:List Atm} {tot:Nat} {L:List Row} {BB:Nat->List BkT}
theorem Qbn(hat:ats.length=m)(hae:∀ i,i<m->(ats.getD i a0).rows=rs i){T:Nat->Row->Nat}: Xp n pf T ats≠0↔(∀ i,i<m->rs i≠[])/\∀ v,v<n->pf v = -1->0<T v []:=by
 unfold Xp;have o:ats.any (λa=>a.rows.isEmpty)=true↔∃ i,i<m/\rs i=[]:=by
  rw [List.any_eq_true];constructor
  .rintro ⟨a,G,h⟩;obtain ⟨i,hi,rfl⟩:=List.getElem_of_mem G;refine ⟨i,om,?_⟩;rw [<-hae i om];have:ats.getD i a0=ats[i]:=by simp [List.getD,hi]
   rw [this];exact List.isEmpty_iff.1 h
  .rintro ⟨i,hi,h⟩;refine ⟨ats.getD i a0,getD_mem' a0 _ om,?_⟩;rw [hae i hi,h];rfl
 split
 .rename_i h;obtain ⟨i,hi,e⟩:=o.1 h;exact ⟨λh=>absurd rfl h,λh=>absurd e (h.1 i hi)⟩
 .rename_i h;have J:∀ i,i<m->rs i≠[]:=λi hi e=>h (o.2 ⟨i,hi,e⟩);rw [<-Nat.pos_iff_ne_zero,prodR_pos];refine ⟨λh=>⟨J,λv C u=>?_⟩,λh v C=>?_⟩
  .have:=h v C;rwa [if_pos u]at this
  .by_cases u:pf v = -1
   .rw [if_pos u];exact h.2 v C u
   .rw [if_neg u];exact Nat.one_pos
theorem ElR.ixP(h:ElR n f m es perm vars rs kf pf R)(hfit:∀ v,v<f->∀ x∈R v,∀ u∈x,Vu u/\u.bytes.length<=24)(hat:ats.length=m)(hae:∀ i,i<m->(ats.getD i a0).rows=rs i)(htot:tot=Xp n pf (TV n f kf pf R ds (plO perm f)) ats)(hL:Lt ds L)(hLm:∀ y,y∈L↔∃ z,Zz n m vars rs z/\z.take f=y):
  IxP f ds kf pf (BBx tot n f kf pf R ds (plO perm f)) tot L:=by
 have ac:=h.pm.fn;have hn:=h.n32;have C:=h.ok (ds:=ds);have J:tot≠0↔(Jxx n f m perm vars rs kf pf R ds).Roots:=by
  rw [htot,Qbn hat hae];constructor
  .rintro ⟨Z,h2⟩;refine ⟨λv o hp=>h2 v o hp,λa ha=>?_⟩;obtain ⟨i,hi,rfl⟩:=List.mem_map.1 ha;exact Z i (List.mem_range.1 hi)
  .rintro ⟨Z,h2⟩;exact ⟨λi hi=>h2 (vars i,rs i) (List.mem_map.2 ⟨i,List.mem_range.2 hi,rfl⟩),λv o hp=>Z v o hp⟩
 have a3:∀ z,(Jxx n f m perm vars rs kf pf R ds).Join z↔Zz n m vars rs z:=λz=>by
  constructor
  .rintro ⟨Z,h2⟩;exact ⟨Z,λi hi=>h2 (vars i,rs i) (List.mem_map.2 ⟨i,List.mem_range.2 hi,rfl⟩)⟩
  .rintro ⟨Z,h2⟩;refine ⟨Z,λa ha=>?_⟩;obtain ⟨i,hi,rfl⟩:=List.mem_map.1 ha;exact h2 i (List.mem_range.1 hi)
 have hE:tot≠0->∀ v,v<f->∀ k,entK (BBx tot n f kf pf R ds (plO perm f) v) k=(Jxx n f m perm vars rs kf pf R ds).E v k:=λh0 v o k=>by
  unfold BBx;rw [if_pos o,if_neg h0];rfl
 obtain ⟨X,hX⟩:∃ X:BX V,X=⟨V0,n,f,λv=>bk (kf v) 32,pf,plO perm f,(List.range m).map λi=>(vars i,rs i),TV n f kf pf R ds (plO perm f),λv k=>entK (BBx tot n f kf pf R ds (plO perm f) v) k⟩:=⟨_,rfl⟩;have G:tot≠0->X.Ok:=λh0=>by
  subst hX;exact ⟨C.FN,C.plN,C.inj,C.k1,C.k2,C.k3,C.k4,C.k5,C.k6,C.al,C.t1,λv o k=>by
   have:=C.t2 v o k;rw [<-hE h0 v o k]at this;exact this⟩
 have aj:tot≠0↔X.Roots:=by subst hX;exact J
 have ad:∀ z,X.Join z↔Zz n m vars rs z:=λz=>by subst hX;exact a3 z
 have a4:Qg f kf pf (BBx tot n f kf pf R ds (plO perm f))=X.ix:=by subst hX;rfl
 have O:X.F=f:=by subst hX;rfl
 have ak:X.N=n:=by subst hX;rfl
 have an:X.d0=V0:=by subst hX;rfl
 have a7:tot≠0->X.ix.Srt ds:=λh0=>by
  have hs:=h.srt (ds:=ds);subst hX;refine ⟨rfl,λv o k=>?_⟩;have:=hs.srt v o k;show Ij _ (entK _ k);rw [hE h0 v o k];exact this
 have a6:tot=0->L=[]:=λh0=>by
  refine List.eq_nil_iff_forall_not_mem.2 λy hy=>?_;obtain ⟨z,hz,e⟩:=(hLm y).1 hy;have ae:=(a3 z).2 hz;have a1:y.length=f:=by rw [<-e,List.length_take,hz.1];omega
  have:=(C.answers (y:=y) a1).2 ⟨z,ae,e⟩;exact absurd h0 (J.2 this.2)
 have a8:tot≠0->L=X.ix.ext f []:=λh0=>by
  refine Ic hL ((a7 h0).ext f [] (by show 0+f=X.F;omega)) λy=>?_;rw [hLm y];have U:=(G h0).ixOk;constructor
  .rintro ⟨z,hz,e⟩;have a1:y.length=X.F:=by rw [<-e,List.length_take,hz.1];omega
   have:=((G h0).answers a1).2 ⟨z,(ad z).2 hz,by rw [O];exact e⟩;refine (AX.ext_mem f [] y).2 ⟨by rw [a1,O];simp,rfl,λv _ o=>?_⟩;have a9:v<X.F:=by rw [O];simpa using o
   have Z:=this.1 v a9;have hk:X.ix.key v (y.take v)=X.ix.key v y:=by
    have:=U.key_pre (c:=v) (y:=y.take v) (z:=y.drop v) a9 (by rw [List.length_take,Nat.min_eq_left om];exact (U.pl v a9).2);rw [List.take_append_drop]at this;exact this.symm
   show y.getD v X.d0∈(X.E v (X.ix.key v (y.take v))).map (·.1)
   rw [hk];exact Z
  .intro hy;obtain ⟨Z,_,h3⟩:=(AX.ext_mem f [] y).1 hy;have a1:y.length=X.F:=by rw [Z,O];simp
   have af:∀ v,v<X.F->y.getD v X.d0∈(X.E v (prj X.d0 (X.K v) y)).map (·.1):=λv o=>by
    have h4:=h3 v (Nat.zero_le _) (by simpa [O] using o);have hk:X.ix.key v (y.take v)=X.ix.key v y:=by
     have:=U.key_pre (c:=v) (y:=y.take v) (z:=y.drop v) o (by rw [List.length_take,Nat.min_eq_left om];exact (U.pl v o).2);rw [List.take_append_drop]at this;exact this.symm
    rw [hk]at h4;exact h4
   obtain ⟨z,hz,e⟩:=((G h0).answers a1).1 ⟨af,aj.1 h0⟩;exact ⟨z,(ad z).1 hz,by rw [O]at e;exact e⟩
 have aa:∀ v,v<f->GInv (ds.getD v false) (λx=>wtL (TV n f kf pf R ds (plO perm f)) x (chK kf pf v n)) (Go.Proofs.YtebcagekopgdhaaGreatDoor.lastC kf v) (R v) (BBo n f kf pf R ds (plO perm f) v):=λv o=>Jbr h o;have ab:∀ v k,(trK (BBx tot n f kf pf R ds (plO perm f) v) k).toL=[]∨(v<f/\(trK (BBx tot n f kf pf R ds (plO perm f) v) k).toL=Vc (ds.getD v false) (Qa (λx=>wtL (TV n f kf pf R ds (plO perm f)) x (chK kf pf v n)) (Go.Proofs.YtebcagekopgdhaaGreatDoor.lastC kf v) (R v) k)):=λv k=>by
  rw [Jcj];unfold BBx;by_cases o:v<f
  .rw [if_pos o];by_cases h0:tot=0
   .rw [if_pos h0];exact .inl rfl
   .rw [if_neg h0];exact .inr ⟨o,(aa v o).entK k⟩
  .rw [if_neg o];exact .inl rfl
 refine ⟨?_,λh0 v=>?_,λh0=>a4 ▸ (G h0).ixOk,λh0=>a4 ▸ a7 h0,λh0=>a4 ▸ a8 h0,λv k=>?_,λv k=>?_,λv b hb p hp=>?_,om,λv o=>(h.bags v om).1⟩
 .by_cases h0:tot=0
  .rw [a6 h0,h0];rfl
  .have U:=(G h0).ixOk;rw [a8 h0,U.ext_len f [] (by show 0+f=X.F;omega)];have e1:tot=Jc n λv=>if pf v = -1 then TV n f kf pf R ds (plO perm f) v [] else 1:=by
    have a5:=h0;rw [htot]at a5 ⊢;unfold Xp at a5 ⊢;split
    .rename_i hc;rw [if_pos hc]at a5;exact absurd rfl a5
    .rfl
   rw [e1,Jsh ac λc Z h2=>?_]
   .show Jc f _=Jc X.F _;rw [O];refine Yh λc hc=>?_;have ag:=U.pl c (by rw [show X.ix.F=X.F from rfl,O];exact hc);have a2:X.ix.par c=pf c:=by subst hX;rfl
    rw [a2]at ag;by_cases hp:pf c = -1
    .rw [if_pos hp,if_pos ⟨Nat.zero_le _,by rw [a2];simp;omega⟩];have ah:X.ix.key c []=[]:=by
      have ai:X.K c=[]:=(G h0).kroot (by rw [ak];omega) (by subst hX;exact hp);show prj X.d0 (X.K c) []=[];rw [ai];rfl
     have:=((G h0).t2 c (by rw [O];exact hc) []).1;have hT:X.T c []=TV n f kf pf R ds (plO perm f) c []:=by subst hX;rfl
     rw [hT]at this;rw [this];show _=Pl.tot (X.E c (X.ix.key c []));rw [ah]
    .rw [if_neg hp,if_neg];rintro ⟨_,h2⟩;rw [a2]at h2;simp at h2;omega
   .by_cases hp:pf c = -1
    .rw [if_pos hp];have h3:=(J.1 h0).1 c h2 hp;have h4:=Jlp (n:=n) (R:=R) (ds:=ds) (kf:=kf) h.chf c Z [];have h5:0<TV n f kf pf R ds (plO perm f) c []:=h3;omega
    .rw [if_neg hp]
 .unfold BBx;rw [if_pos h0];split<;>rfl
 .rw [Tr.sum_eq];rcases ab v k with e|⟨o,e⟩
  .rw [e];exact Nat.zero_le _
  .rw [e,Jyx];have:=h.big (ds:=ds) v k;rw [Jbn h.chf ac o,Jck]at this;have e2:=(aa v o).entK k;unfold BBo at e2;rw [e2,Jyx]at this;exact this
 .rw [Tr.sz_eq];rcases ab v k with e|⟨o,e⟩
  .rw [e];exact Nat.zero_le _
  .rw [e];have Z:(Vc (ds.getD v false) (Qa (λx=>wtL (TV n f kf pf R ds (plO perm f)) x (chK kf pf v n)) (Go.Proofs.YtebcagekopgdhaaGreatDoor.lastC kf v) (R v) k)).length<=(R v).length:=by
    have:(Qa (λx=>wtL (TV n f kf pf R ds (plO perm f)) x (chK kf pf v n)) (Go.Proofs.YtebcagekopgdhaaGreatDoor.lastC kf v) (R v) k).length<=(R v).length:=by
     unfold Qa;rw [List.length_map];exact List.length_filter_le _ _
    unfold Vc;split<;>simpa using this
   exact nL Z (h.rows v om).2.2
 .unfold BBx at hb;by_cases o:v<f
  .rw [if_pos o]at hb;by_cases h0:tot=0
   .rw [if_pos h0]at hb;cases hb
   .rw [if_neg h0]at hb;rw [((aa v o).con b hb).1,Qqw,entL_mem]at hp;obtain ⟨x,hx,_,h2,_⟩:=hp;rw [<-h2];have am:=h.rl o x hx;have:x.getD (Go.Proofs.YtebcagekopgdhaaGreatDoor.lastC kf v) V0∈x:=getD_mem' V0 x om;exact hfit v o x hx _ this
  .rw [if_neg o]at hb;cases hb
theorem IxP.few(h:IxP f ds kf pf BB tot L)(hl:L.length<4294967296): tot≠0->∀ z,(Qg f kf pf BB).Gp z->z.length<f->0<(Qg f kf pf BB).pend z.length z->(Qg f kf pf BB).others z.length z<4294967296:=λh0 z C o u=>by
 have J:=((h.ok h0).others_le o u).2;have G:=(h.ok h0).pend_le z.length z rfl (Nat.le_of_lt o) C;rw [h.pend0 h0,h.len]at G;omega
end
open Pl Go.Wk
variable {l:List Int}{i n u v:Nat}
def toN(l:List Int): List Nat:=l.map Int.toNat
theorem Jvr(h:∀ v∈l,0<=v): nz (toN l)=l:=by
 unfold nz toN;rw [List.map_map];conv=>rhs;rw [<-List.map_id l]
 exact List.map_congr_left λv o=>by simp only [Function.comp,id];have:=h v o;omega
theorem Jcl(h:∀ v∈l,0<=v): u∈toN l↔(u:Int)∈l:=by
 conv=>rhs;rw [<-Jvr h]
 unfold nz;rw [List.mem_map];exact ⟨λC=>⟨u,C,rfl⟩,λ⟨v,o,e⟩=>by (have:v=u:=by omega);(exact this ▸ o)⟩
theorem Xqr{l:List Nat}(h:ascB (nz l)): Qu l:=by
 unfold Qu;rw [List.pairwise_iff_getElem];intro i j hi C G;have step:∀ k,0<k->k<l.length->l.getD (k-1) 0<l.getD k 0:=λk h0 u=>by
  have:=h k h0 (by rw [Qm];exact u);rw [Jvs om,Jvs u]at this;omega
 have key:∀ d,i+1+d<l.length->l.getD i 0<l.getD (i+1+d) 0:=by
  intro d;induction d with
  | zero=>intro o;have:=step (i+1) om o;simpa using this
  | succ d ih=>
   intro o;have O:=ih om;have J:=step (i+1+(d+1)) om o;have e:i+1+(d+1)-1=i+1+d:=om
   rw [e]at J;omega
 have:=key (j-(i+1)) om;rw [show i+1+(j-(i+1))=j by omega,Jd 0 _ hi,Jd 0 _ C]at this;exact this
structure CseOk(c:Cse)(ats:List Atm): Prop where
 few:FewP c
 len:c.vs.length=c.rss.length
 al:ats.length=c.vs.length
 mka:∀ i,i<c.vs.length->MkA (ats.getD i a0) (c.vs.getD i []) (c.rss.getD i [])
 chk:chkI ⟨c.n,c.f,c.ds,c.pm,ats⟩
 fit:∀ i,i<c.rss.length->∀ r∈c.rss.getD i [],∀ u∈r,Vu u
def Cse.N(c:Cse): Nat:=c.n.toNat
def Cse.F(c:Cse): Nat:=c.f.toNat
def Cse.m(c:Cse): Nat:=c.vs.length
def Cse.vars(c:Cse)(i:Nat): List Nat:=toN (c.vs.getD i [])
def Cse.crs(c:Cse)(i:Nat): List Row:=c.rss.getD i []
def rsA(ats:List Atm)(i:Nat): List Row:=(ats.getD i a0).rows
def Cse.ans(c:Cse): List Row:=ansF c.m c.vars c.crs c.N c.F c.ds
section
variable {c:Cse} {ats:List Atm}
theorem CseOk.nN(h:CseOk c ats): c.n=(c.N:Int)/\c.N<=6:=by
 have u:=h.chk.1;have o:=h.chk.2.1;have C:=h.few.n6;simp only at u o;unfold Cse.N;omega
theorem CseOk.fF(h:CseOk c ats): c.f=(c.F:Int)/\c.F<=c.N:=by
 obtain ⟨C,_,u,o,_⟩:=h.chk;simp only at C u o;unfold Cse.F Cse.N;omega
theorem CseOk.at_(h:CseOk c ats)(hi:i<c.m): Jwg c.n (ats.getD i a0):=by
 obtain ⟨_,_,_,_,_,_,_,_,_,_,_,o,_⟩:=h.chk;exact o _ (getD_mem' a0 _ (by rw [h.al];exact hi))
theorem CseOk.vars(h:CseOk c ats){i:Nat}(hi:i<c.m): nz (c.vars i)=c.vs.getD i []/\Qu (c.vars i)/\(∀ v∈c.vars i,v<c.N)/\(c.vars i).length=(c.vs.getD i []).length:=by
 obtain ⟨C,u,J⟩:=h.at_ hi;have G:=(h.mka i hi).vars;rw [G]at C u;have h0:∀ v∈c.vs.getD i [],0<=v:=λv o=>(u v o).1;refine ⟨Jvr h0,Xqr (by unfold Cse.vars;rw [Jvr h0];exact C),λv o=>?_,by simp [Cse.vars,toN]⟩;have:=(u v ((Jcl h0).1 o)).2;have:=h.nN.1;omega
theorem CseOk.cov(h:CseOk c ats)(hv:v<c.N): ∃ i,i<c.m/\v∈c.vars i:=by
 obtain ⟨_,_,_,_,_,_,_,_,_,_,_,_,Z⟩:=h.chk;obtain ⟨a,U,C⟩:=Z v (by have:=h.nN.1;simp only;omega);obtain ⟨i,hi,e⟩:=List.getElem_of_mem U;have o:i<c.m:=by have:=h.al;unfold Cse.m;simp only at hi;omega
 have J:ats.getD i a0=a:=by rw [Jd a0 _ hi,e]
 have G:=(h.mka i o).vars;rw [J]at G;refine ⟨i,o,(Jcl λu O=>?_).2 (G ▸ C)⟩;have:=(h.at_ o).2.1 u (by rw [J,G];exact O);exact this.1
theorem CseOk.set(h:CseOk c ats){i:Nat}(hi:i<c.m): Zh [] (c.crs i) (rsA ats i):=(h.mka i hi).set (by have:=h.few.row i (by rw [<-h.len];exact hi);unfold Cse.m at hi;omega)
theorem CseOk.clen(h:CseOk c ats)(hi:i<c.m): ∀ r∈c.crs i,r.length=(c.vars i).length:=λr o=>by rw [(h.vars hi).2.2.2];exact ((h.mka i hi).ok r o).1
theorem CseOk.slen(h:CseOk c ats)(hi:i<c.m): ∀ r∈rsA ats i,r.length=(c.vars i).length:=λr o=>h.clen hi r (((h.set hi).2 r).1 o)
theorem Jsg{g g':Nat->Nat}(h:∀ c,c<n->g c<=g' c): Jc n g<=Jc n g':=by
 induction n with
 | zero=>exact Nat.le_refl _
 | succ n ih=>rw [Jc,Jc];exact Nat.mul_le_mul (ih λc o=>h c om) (h n om)
theorem CseOk.cnt(h:CseOk c ats): max 1 (Jc c.m λi=>(c.crs i).length)<=5000:=by
 have o:=h.few.cnt;rw [<-h.len]at o;have u:Jc c.m (λi=>(c.crs i).length)<=Jc c.vs.length λi=>max 1 (c.rss.getD i []).length:=Jsg λi _=>Nat.le_max_right _ _;omega
theorem CseOk.refP(h:CseOk c ats): RefP c.N c.m c.vars c.crs:=by
 have u:=h.nN.2;refine ⟨om,by have:=h.few.v5;unfold Cse.m;omega,λi hi=>(h.vars hi).2.1,λi hi=>(h.vars hi).2.2.1,λi hi=>h.clen hi,λv o=>h.cov o,h.cnt,λi hi=>h.few.row i (by rw [<-h.len];exact hi)⟩
theorem Jcv{ds:List Bool}{ls m:List Row}(h:Zh ds ls m): m.length<=ls.length:=Jkc (Jfp h.1) λx o=>(h.2 x).1 o
theorem CseOk.pm(h:CseOk c ats): PermOk c.N c.F (toN c.pm)/\nz (toN c.pm)=c.pm:=by
 obtain ⟨_,_,_,_,_,G,u,C,_⟩:=h.chk;simp only at G u C;have hn:=h.nN.1;have J:=h.fF.1;have h0:∀ v∈c.pm,0<=v:=λv o=>by have:=(u v o).1;omega
 refine ⟨⟨h.fF.2,by simp [toN];omega,λv o=>?_,?_⟩,Jvr h0⟩
 .have:=u v ((Jcl h0).1 o);omega
 .unfold toN List.Nodup;rw [List.pairwise_map];exact List.Pairwise.imp_of_mem (fun {a b} ha hb hab e=>hab (by have:=h0 a ha;have:=h0 b hb;omega)) C
theorem CseOk.bldI(h:CseOk c ats){ts:List TA}(hts:ats=ts.map (·.2)): BldI c.N c.F c.ds (toN c.pm) ts c.vars (rsA ats):=by
 have hN:=h.nN.2;have o:ts.length=c.m:=by have:=h.al;rw [hts,List.length_map]at this;exact this
 have C:RunOk c.N ts c.vars (rsA ats):=by
  refine ⟨om,by have:=h.few.v5;unfold Cse.m at o;omega,λi hi=>?_,λi hi=>(h.vars (o ▸ hi)).2.1,λi hi=>(h.vars (o ▸ hi)).2.2.1,λv J=>by rw [o];exact h.cov J,λi hi=>(h.set (o ▸ hi)).1,λi hi=>h.slen (o ▸ hi),λi hi=>(h.mka i (show i<c.m from o ▸ hi)).len⟩;have G:i<c.m:=o ▸ hi;have e:(ts.getD i ta0).2=ats.getD i a0:=by rw [hts];simp [List.getD,hi]
  have hm:=h.mka i G;obtain ⟨v1,_,_,v4⟩:=h.vars G;rw [e];have e2:ats.getD i a0=⟨(ats.getD i a0).vars,(ats.getD i a0).ar,(ats.getD i a0).rows⟩:=rfl;rw [e2,hm.vars,hm.ar,v1,v4];rfl
 refine ⟨C,h.pm.1,?_,λi hi r hr u hu=>?_,λkf pf hb v J=>⟨λl hl hx=>?_,λi hi=>.inl ?_⟩⟩
 .obtain ⟨_,_,_,_,U,_⟩:=h.chk;simp only at U;unfold Cse.F;omega
 .have G:i<c.m:=o ▸ hi;have O:=((h.set G).2 r).1 hr;have U:=((h.mka i G).ok r O).2;exact ⟨List.all_eq_true.1 U u hu,h.fit i (by rw [<-h.len];exact G) r O u hu⟩
 .have hs:kf v ||| 2^v<2^c.N:=by
   refine Nat.lt_pow_two_of_testBit _ λi hi=>?_;cases hbt:(kf v ||| 2^v).testBit i with
   | false=>rfl
   | true=>
    rw [Nat.testBit_or,Nat.testBit_two_pow,Bool.or_eq_true,decide_eq_true_eq]at hbt;rcases hbt with hbt|hbt
    .rw [(hb v J).2.1]at hbt;have Z:∀ e∈Xz ts.length c.vars,e<2^c.N:=λe he=>by
      obtain ⟨i,hi,rfl⟩:=List.mem_map.1 he;exact Jhb (C.lt i (List.mem_range.1 hi))
     have:=Jyf (nb:=nb0 c.N (Xz ts.length c.vars)) (ord:=Qk (toN c.pm) c.F) (N:=c.N) (λa b a1=>(Jxf Z a1).2.1) hbt;omega
    .omega
  have U:=Xqk (m:=ts.length) (vars:=c.vars) (rs:=rsA ats) (l:=l) (λi hi=>C.asc i hi) (λv J=>C.cov v J) hs hl hx;have h2:Jc ts.length (λi=>(rsA ats i).length)<=Jc ts.length λi=>(c.crs i).length:=Jsg λi hi=>Jcv (h.set (o ▸ hi));have h3:=h.cnt;rw [o]at h2;rw [o]at U;omega
 .have:=Jcv (h.set (o ▸ hi));have h2:=h.few.row i (by rw [<-h.len];exact (show i<c.m from o ▸ hi));unfold Cse.crs at this;omega
theorem CseOk.ansJ(h:CseOk c ats)(z:Row): Zz c.N c.m c.vars (rsA ats) z↔Zz c.N c.m c.vars c.crs z:=by
 unfold Zz;refine and_congr_right λ_=>forall_congr' λi=>forall_congr' λhi=>?_;exact (h.set hi).2 _
theorem CseOk.ans(h:CseOk c ats): Lt c.ds c.ans/\∀ y,y∈c.ans↔∃ z,Zz c.N c.m c.vars (rsA ats) z/\z.take c.F=y:=by
 have C:=Qwh c.m c.vars c.crs c.N c.F c.ds;have o:=h.refP;refine ⟨C.1,λy=>?_⟩;rw [show c.ans=ansF c.m c.vars c.crs c.N c.F c.ds from rfl,C.2 y,List.mem_map];constructor
 .rintro ⟨z,u,e⟩;exact ⟨z,(h.ansJ z).2 ((Qjj o.asc o.len o.lt o.cov z).1 u),e⟩
 .rintro ⟨z,u,e⟩;exact ⟨z,(Qjj o.asc o.len o.lt o.cov z).2 ((h.ansJ z).1 u),e⟩
theorem CseOk.anl(h:CseOk c ats): c.ans.length<=5000:=by
 have o:=h.refP;have u:=Jcv (Qwh c.m c.vars c.crs c.N c.F c.ds);have C:=Qmm o.asc o.len o.cov;rw [List.length_map]at u;exact nL u (nL C o.cnt)
end
open Go.RowKit Pl Go.Wk
attribute [local irreducible] WC WL QX WD WDB WP WN WG WH WM
variable {ats:List Atm}{ds:List Bool}{es perm:List Nat}{ts:List TA}{f m n v:Nat}{pf:Nat->Int}{vars:Nat->List Nat}{R rs:Nat->List Row}{x:Value}{w:World}
theorem IxV.congr{kf:Nat->Nat}{BB BB':Nat->List BkT}{tot:Nat}(h:IxV w x f ds kf pf BB tot)(he:∀ v,v<f->BB v=BB' v): IxV w x f ds kf pf BB' tot:=by
 obtain ⟨DA,dc,BA,cb,KA,ck,PA,cp,G,u,o,h1,h2,h3,h4,h5,Z,U,O,J⟩:=h.ex;exact ⟨⟨DA,dc,BA,cb,KA,ck,PA,cp,G,u,o,h1,h2,h3,h4,h5,Z,U,O,λv C=>he v C ▸ J v C⟩,h.dl,h.f32⟩
theorem ElR.fits{kf:Nat->Nat}(h:ElR n f ts.length es perm vars rs kf pf R)(hI:BldI n f ds perm ts vars rs):
  ∀ v,v<f->∀ x∈R v,∀ u∈x,Vu u/\u.bytes.length<=24:=λv G x C u J=>by
 have o:v<n:=nM G h.pm.fn;obtain ⟨z,_,e,O⟩:=((h.rows v o).2.1 x).1 C;subst e;exact (hI.fit (h.sb o) O).1.2 u J
theorem ElR.htb{kf:Nat->Nat}{tot:Nat}(h:ElR n f m es perm vars rs kf pf R){b:BkT}(hb:b∈BBx tot n f kf pf R ds (plO perm f) v): b.2.ht<=65536:=by
 unfold BBx at hb;by_cases hv:v<f
 .rw [if_pos hv]at hb;by_cases h0:tot=0
  .rw [if_pos h0]at hb;cases hb
  .rw [if_neg h0]at hb;have e:=((Jbr (ds:=ds) h hv).con b hb).1;have C:b.2.toL.length<=(R v).length:=by
    rw [e];have:(Qa (λx=>wtL (TV n f kf pf R ds (plO perm f)) x (chK kf pf v n)) (Go.Proofs.YtebcagekopgdhaaGreatDoor.lastC kf v) (R v) b.1).length<=(R v).length:=by
     unfold Qa;rw [List.length_map];exact List.length_filter_le _ _
    unfold Vc;split<;>simpa using this
   have o:=Tr.ht_le b.2;rw [Tr.sz_eq]at o;have u:=(h.rows v (nM hv h.pm.fn)).2.2;omega
 .rw [if_neg hv]at hb;cases hb
theorem Qmn{kf:Nat->Nat}{L:List Row}(hTB:∃ B0,TB B0 w)(hI:BldI n f ds perm ts vars rs)(hats:∀ i,i<ts.length->((ts.map (·.2)).getD i a0).rows=rs i)(hE:ElR n f ts.length es perm vars rs kf pf R)(hV:IxV w x f ds kf pf (λu=>if Xp n pf (TV n f kf pf R ds (plO perm f)) (ts.map (·.2))=0 then [] else BBo n f kf pf R ds (plO perm f) u) (Xp n pf (TV n f kf pf R ds (plO perm f)) (ts.map (·.2))))(hL:Lt ds L)(hLm:∀ y,y∈L↔∃ z,Zz n ts.length vars rs z/\z.take f=y)(hl:L.length<4294967296):
  IxA w x f ds kf pf (BBx (Xp n pf (TV n f kf pf R ds (plO perm f)) (ts.map (·.2))) n f kf pf R ds (plO perm f)) (Xp n pf (TV n f kf pf R ds (plO perm f)) (ts.map (·.2))) L:=by
 have o:=hE.ixP (ds:=ds) (tot:=Xp n pf (TV n f kf pf R ds (plO perm f)) (ts.map (·.2))) (hE.fits hI) (ats:=ts.map (·.2)) (by rw [List.length_map]) hats rfl hL hLm
 exact ⟨hTB,hV.congr λv C=>by unfold BBx;rw [if_pos C],o,o.few hl,λv b G=>hE.htb G⟩
def Qvc(c:Cse): Prop:=FewS c/\MkS c/\∀ ats:List Atm,ats.length=c.vs.length->(∀ i,i<c.vs.length->MkA (ats.getD i a0) (c.vs.getD i []) (c.rss.getD i []))->chkI ⟨c.n,c.f,c.ds,c.pm,ats⟩
theorem Qdp(h:ats=ts.map (·.2)): ∀ i,i<ts.length->((ts.map (·.2)).getD i a0).rows=rsA ats i:=λi hi=>by rw [rsA,h]
theorem Xjc{c:Cse}{dA pA aA:Option Addr}{dc pc ac an:Nat}(h:CseOk c ats)(hD:BoolsV w (.slice dA c.ds.length dc) c.ds)(hP:IntsV w (.slice pA c.pm.length pc) c.pm)(hG:GV 3 AtG w (.slice aA an ac) ats):
  ∃ ts:List TA,ats=ts.map (·.2)/\BldV w (.agg #[.int .i64 c.n,.int .i64 c.f,.slice dA c.ds.length dc,.slice pA c.pm.length pc,.slice aA an ac]) c.N c.F c.ds (toN c.pm) ts:=by
 obtain ⟨ts,A,cc,G,eA,U,Z,O,J⟩:=Jlh hG;injection eA with o e2 e3
 subst o;subst e2;subst e3;obtain ⟨D,d',o,h1,h2,h3⟩:=hD;injection o with o e2 e3
 subst o;subst e3;obtain ⟨Q,q',o,h4,h5,h6⟩:=hP;injection o with o e2 e3
 subst o;subst e3;have C:=(h.bldI G).dl;have u:(toN c.pm).length=c.pm.length:=by simp [toN]
 refine ⟨ts,G,dA,dc,pA,pc,aA,ac,?_,by rw [<-C];exact h1,h3,?_,by rw [u];exact h4,O,U,J⟩
 .rw [h.nN.1.symm,h.fF.1.symm,u,<-C]
 .rw [h.pm.2,u];exact h6
end Go.Proofs.YtebcagekopgdhaaGreatDoor
namespace Go.Proofs.YtebcagekopgdhaaGreatDoor
open Pl Go.Wk
def nV(n:Int): V:=⟨1,n,⟨#[]⟩⟩
def nR(a b:Int): Row:=[nV a,nV b]
theorem Jtl{n:Int}(h:-9223372036854775808<=n/\n<=9223372036854775807): Vu (nV n):=⟨by show _<=(1:Int)/\(1:Int)<=_;omega,h⟩
def Xx(ds:List Bool)(r1 r2 r3:Row): Cse:=⟨2,2,ds,[],[[0,1]],[[r1,r2,r3]]⟩
theorem goodE{ds:List Bool}{r1 r2 r3:Row}(hd:ds.length=2)(h1:r1.length=2/\r1.all Xj=true)(h2:r2.length=2/\r2.all Xj=true)(h3:r3.length=2/\r3.all Xj=true): Qvc (Xx ds r1 r2 r3):=by
 refine ⟨⟨λi hi=>?_,by simp [Xx,Jc],by simp [Xx],by simp [Xx],by simp [Xx],λi hi=>?_,by show ds.length<=10;omega,by simp [Xx]⟩,⟨rfl,λi hi=>?_,λi hi r J=>?_,λi hi=>?_⟩,λats G hmk=>?_⟩
 .have:i=0:=by simp [Xx]at hi;exact hi
  subst this;simp [Xx]
 .have:i=0:=by simp [Xx]at hi;exact hi
  subst this;simp [Xx]
 .have:i=0:=by simp [Xx]at hi;exact hi
  subst this;simp [Xx]
 .have:i=0:=by simp [Xx]at hi;exact hi
  subst this;simp only [Xx,List.getD_cons_zero,List.mem_cons,List.not_mem_nil,or_false]at J;rcases J with rfl|rfl|rfl
  .exact h1
  .exact h2
  .exact h3
 .have:i=0:=by simp [Xx]at hi;exact hi
  subst this;simp [Xx]
 .have u:ats.length=1:=G;obtain ⟨a,rfl⟩:∃ a,ats=[a]:=List.length_eq_one_iff.1 u;have O:=hmk 0 (by simp [Xx]);have o:a.vars=[0,1]:=O.vars;have ha:a.ar=2:=O.ar;refine ⟨by simp [Xx],by simp [Xx],by simp [Xx],by simp [Xx],by show (ds.length:Int)=2;omega,by simp [Xx],λv o=>(by cases o),by simp [Xx],by simp [Xx],by simp [Xx],by simp,λb U=>?_,λv C=>⟨a,by simp,?_⟩⟩
  .rw [List.mem_singleton]at U;subst U;refine ⟨?_,?_,by rw [o,ha];rfl⟩
   .rw [o];intro j h0 hj;have:j=1:=by simp at hj;omega
    subst this;decide
   .rw [o];intro v h;simp only [List.mem_cons,List.not_mem_nil,or_false]at h;rcases h with rfl|rfl<;>simp [Xx]
  .rw [o];have Z:(v:Int)<2:=C;simp only [List.mem_cons,List.not_mem_nil,or_false];omega
open Go.RowKit Pl Go.Wk
attribute [local irreducible] WC WL QX WD WDB WP WN WG WH WM
theorem Xjj(n:Int)(w:World): (Instr.build 47 #[(0,.int .i64 1),(1,.int .i64 n)]).run Tryz.prog w=.ok (nV n).val w:=kr
theorem bs1V(a:V)(w:World): (Instr.buildSlice 37 1 #[(0,a.val)]).run Tryz.prog w=.ok (.slice (some ⟨w.heap.size,0,none⟩) 1 1) (w.alloc (.cells (Jl [a]).toArray 47)):=kr
theorem bs3R(A1 A2 A3:Option Addr)(n1 n2 n3 c1 c2 c3:Nat)(w:World): (Instr.buildSlice 54 3 #[(0,.slice A1 n1 c1),(1,.slice A2 n2 c2),(2,.slice A3 n3 c3)]).run Tryz.prog w=.ok (.slice (some ⟨w.heap.size,0,none⟩) 3 3) (w.alloc (.cells [.slice A1 n1 c1,.slice A2 n2 c2,.slice A3 n3 c3].toArray 37)):=kr
theorem bs2I(a b:Int)(w:World): (Instr.buildSlice 44 2 #[(0,.int .i64 a),(1,.int .i64 b)]).run Tryz.prog w=.ok (.slice (some ⟨w.heap.size,0,none⟩) 2 2) (w.alloc (.cells [Value.int .i64 a,.int .i64 b].toArray 3)):=kr
theorem Qlw{w:World}{b:Nat}(ps:List Pr)(h:Blk w b 37 (ps.map (·.1)))(hr:∀ p∈ps,RowV w p.1 p.2)(hl:ps.length<=1100000): RowsV w (.slice (some ⟨b,0,none⟩) ps.length ps.length) (ps.map (·.2)):=⟨ps,some ⟨b,0,none⟩,ps.length,rfl,rfl,Nat.le_refl _,hl,h.rd (by simp),hr⟩
end Go.Proofs.YtebcagekopgdhaaGreatDoor
namespace Go.Wk
open Go.RowKit Go.ChangeShapes Go.WideShapes
section
variable {H:Type} {enc:TypeId×Value->H} {P:Program} {w:World} {base:Nat} {spare:Nat->Bool} {held:Bool}
theorem rd_of{A:Option Addr}{sz len:Nat}{cs:List Value}{ad:Addr}(hA:A=some ad)(hl:cs.length=len*sz)(hc:∀ j u,cs[j]?=some u->w.cell? (ad.add j)=some u): Rd w sz A len cs :=
 ⟨hl,λh0=>⟨ad,hA,by
  have o:=hc 0 cs[0] (gE h0);rw [add_zero]at o;exact World.block_lt_of_cell? w ad o,hc⟩⟩
theorem Qqh{α:Type}(f:α->Value)(l:List α): l.flatMap (λz=>[f z])=l.map f:=by induction l<;>simp_all
end
end Go.Wk
namespace Go.Proofs.YtebcagekopgdhaaGreatDoor
open Go.RowKit Pl Go.Wk Go.ChangeShapes Go.WideShapes
variable {H α:Type}
theorem Qtl(d:DataW H): 1<=Rows.uptoBulk d:=by
 cases d with
 | lit l=>cases l<;>simp [Rows.uptoBulk]
 | nil=>simp [Rows.uptoBulk]
 | ptr d=>simp [Rows.uptoBulk]
 | slice elems spare=>simp [Rows.uptoBulk]
 | agg parts=>simp [Rows.uptoBulk]
 | iface t d=>simp [Rows.uptoBulk]
 | map entries=>simp [Rows.uptoBulk]
 | held h=>simp [Rows.uptoBulk]
theorem Qtk{d:DataW H}{l:List (DataW H)}(h:d∈l): Rows.uptoBulk d<=Rows.uptoBulkAll l:=by
 induction l with
 | nil=>cases h
 | cons x r ih=>
  simp only [Rows.uptoBulkAll];cases List.mem_cons.1 h with
  | inl e=>subst e;omega
  | inr e=>have:=ih e;omega
theorem Qtm(l:List (DataW H)): l.length<=Rows.uptoBulkAll l:=by
 induction l with
 | nil=>simp [Rows.uptoBulkAll]
 | cons x r ih=>have:=Qtl x;simp only [Rows.uptoBulkAll,List.length_cons];omega
section
variable {H:Type} {enc:TypeId×Value->H} {P:Program} {w:World} {base:Nat} {spare:Nat->Bool} {held:Bool} {B:Nat}
theorem Jsw{t e sz:Nat}{fuel:Nat}{cs:List Value}{x:DataW H×List MemPlace}(X:α->List Value)(R:α->Prop)(ht:P.underlying t=some (.slice e))(hc:P.cellsOf e=sz)(hb:Rows.uptoBulk x.1<=B)(hX:∀ (n:Nat) (cs':List Value) (y:DataW H×List MemPlace),DataW.trod enc P w base spare held n e cs'=some y->Rows.uptoBulk y.1<=B->∃ z:α,cs'=X z/\R z)(h:DataW.trod enc P w base spare held fuel t cs=some x): ∃ (l:List α) (A:Option Addr) (cap:Nat),cs=[.slice A l.length cap]/\Rd w sz A l.length (l.flatMap X)/\(∀ z∈l,R z)/\l.length<=cap/\l.length<=B:=by
 rcases Go.Deep.open_slice ht h with ⟨G,_⟩|⟨a,len,cap,m,n,D,Pl,G,_,hl,hm,hmm,hx,hel⟩
 .exact ⟨[],none,0,G,Rd.nil,(λz J=>by cases J),Nat.le_refl _,Nat.zero_le _⟩
 .subst G;subst hx;have a6:len<=m:=by rw [hmm];split<;>omega
  have a3:Rows.uptoBulkAll ((List.range len).map D)<=B:=by
   simp only [Rows.uptoBulk]at hb;omega
  have a2:len<=B:=by
   have:=Qtm ((List.range len).map D);simp at this;omega
  have key:∀ k,k<=len->∃ l:List α,l.length=k/\(l.flatMap X).length=k*sz/\(∀ j u,(l.flatMap X)[j]?=some u->w.cell? (a.add j)=some u)/\∀ z∈l,R z:=by
   intro k;induction k with
   | zero=>intro _;exact ⟨[],rfl,by simp,(λj u o=>by simp at o),(λz J=>by cases J)⟩
   | succ k ih=>
    intro hk;obtain ⟨l,h1,U,h3,h4⟩:=ih om;obtain ⟨cs',C,a1⟩:=hel k om;have a5:D k∈(List.range len).map D:=List.mem_map.2 ⟨k,List.mem_range.2 om,rfl⟩;obtain ⟨z,rfl,J⟩:=hX n cs' _ a1 (nL (Qtk a5) a3);rw [hc]at C;obtain ⟨_,O,a4⟩:=World.cells?_some C;refine ⟨l++[z],by simp [h1],?_,?_,?_⟩
    .rw [List.flatMap_append,List.length_append,U];simp only [List.flatMap_cons,List.flatMap_nil,List.append_nil,O,Nat.add_mul,Nat.one_mul]
    .intro j u o;rw [List.flatMap_append]at o;simp only [List.flatMap_cons,List.flatMap_nil,List.append_nil]at o;rcases Nat.lt_or_ge j (k*sz) with hj|hj
     .rw [List.getElem?_append_left om]at o;exact h3 j u o
     .rw [List.getElem?_append_right om,U]at o;have hb:j-k*sz<sz:=by have:=(List.getElem?_eq_some_iff.1 o).1;omega
      have:=a4 (j-k*sz) hb;rw [Jln]at this;rw [show k*sz+(j-k*sz)=j by omega]at this;rw [this,o]
    .intro z' Z;rcases List.mem_append.1 Z with h'|h'
     .exact h4 z' h'
     .simp at h';subst h';exact J
  obtain ⟨l,h1,U,h3,h4⟩:=key len (Nat.le_refl _);subst h1;exact ⟨l,some a,cap,rfl,rd_of rfl U h3,h4,hl,a2⟩
end
section
variable {H:Type} {enc:TypeId×Value->H} {w:World} {base b0:Nat} {spare:Nat->Bool} {held:Bool}
end
theorem gPow: Tryz.prog.globalNamed "internal/strconv.uint64pow10" = some 1:=kr
theorem gPowT: (Tryz.prog.globals[1]?).map (·.type)=some 315:=kr
theorem Qbt{W:World}(h:laidMetH Tryz.prog Rows.walkPiecesUptoRow.laid W): TB W.heap.size W:=by
 refine ⟨Nat.le_refl _,Lib.tabBelow_of_tabIs ?_⟩;have o:=h.filter (λx=>x.1 == "internal/strconv.uint64pow10");exact Lib.tabIs_of_head (rest:=[]) gPow gPowT Tryz.underlying315 Tryz.underlying22 kr kr o
def Jfz(d:DataW Unit): Obj->Obj
 | .cells _ t z=>.cells (match d with
  | .agg ps=>(ps.map fun
   | .lit (.int k z)=>Value.int k z
   | _=>Value.bool false).toArray
  | _=>#[]) t z
 | o=>o
end Go.Proofs.YtebcagekopgdhaaGreatDoor
namespace Go.Wk
end Go.Wk
namespace Go.Proofs.YtebcagekopgdhaaGreatDoor
open Go.RowKit Pl Go.Wk
attribute [local irreducible] WC WL QX WD WDB WP WN WG WH WM
theorem Jhm: ∀ (a b:Row) (ds:List Bool) (l:Nat),Jk a b ds<=0->Jk (a.take l) (b.take l) ds<=0
 | _,_,_,0,_=>by simp [Jk]
 | [],[],_,_+1,_=>by simp [Jk]
 | [],_::_,_,_+1,_=>by simp [Jk]
 | _::_,[],_,_+1,h=>by simp [Jk]at h
 | x::a,y::b,ds,l+1,h=>by
  simp only [List.take_succ_cons,Jk]at h ⊢;by_cases e:cmpV x y=0
  .rw [if_pos e]at h ⊢;exact Jhm a b _ l h
  .rw [if_neg e]at h ⊢;exact h
theorem Jfm{ds:List Bool}{L:List Row}(h:Lt ds L){i j:Nat}(hij:i<j)(hj:j<L.length): Jk (L.getD i []) (L.getD j []) ds<0:=by
 have hi:i<L.length:=om
 have:=List.pairwise_iff_getElem.1 h i j hi hj hij;rwa [Jd [] _ hi,Jd [] _ hj]at *
open Go.RowKit Pl Go.Wk
theorem Qbr{k:Int}{n:Nat}(hk:0<=k)(hn:0<n): ∃ r:Nat,k.tmod (n:Int)=(r:Int)/\r<n:=by
 refine ⟨(k.tmod (n:Int)).toNat,?_,?_⟩
 .have:=Int.tmod_nonneg (a:=k) (n:Int) hk;omega
 .have u:=Int.tmod_nonneg (a:=k) (n:Int) hk;have o:=Int.tmod_lt_of_pos k (show (0:Int)<(n:Int) by omega);omega
end Go.Proofs.YtebcagekopgdhaaGreatDoor
namespace Go.Wk
open Go.RowKit
section
variable {P:Program} {n:Nat} {al:AL} {w:World} {Q:Exit->Act->World->Prop} {ops:Array Oper} {rest:List Oper} {d ty:Nat} {pos:String} {aft:Array Edge}
theorem apz{t e sz bytes base:Nat}{z:Value}(hE:ElT P t e sz bytes z){x y:Operand}{b:Addr}{A':Option Addr}{m' c':Nat}{news:List Value}(hr:Rd w sz A' m' news)(h1:∀ u∈news,u.oneCell'=true)(h0:0<m')(h63:m'<=maxLen)(hby:m'*bytes<=140737488355328)(hbase:base<=w.heap.size)(kk:∀ v' w',Ext w w'->w'.ownsRow base e sz v' m' news->WL P n ops Q rest ((d,v')::al) w')(hx:ev al x=some (.slice (some b) 0 0):=by rfl)(hy:ev al y=some (.slice A' m' c'):=by rfl)(hd:Nat.blt d n=true:=by rfl):
  WL P n ops Q (⟨some d,.call { callee:=.builtin .append,args:=#[x,y],argTypes:=#[t,t] },ty,pos,aft,none⟩::rest) al w:=by
 obtain ⟨i,hi,Z,J,O⟩:=hE.info;obtain ⟨ad,rfl,hb,hc⟩:=hr.2 (by rw [hr.1];exact Nat.mul_pos h0 hE.pos);obtain ⟨v',w',o,h2,G⟩:=run_append_arg_grows (P:=P) w t ty e i z sz bytes hE.sl hi Z J O hE.cells hE.pos b 0 0 [] (by simp) (λj u hu=>by simp at hu) ad m' c' news hr.1 hc om om (by rw [Nat.zero_add];exact hby);have U:w'.ownsRow base e sz v' m' news:=by
  have:=World.ownsRow.mono h2 hbase;simpa using this
 refine wop hd (λa C=>?_) (kk v' w' ⟨G.os,G.tape,G.output,G.size,λk hk=>G.block k hk (by simp)⟩ U);simp [execOp,resolve,invoke,builtin,C.ev hx,C.ev hy,o]
end
end Go.Wk
namespace Go.Proofs.YtebcagekopgdhaaGreatDoor
open Go.RowKit Pl Go.Wk
attribute [local irreducible] WC WL QX WD WDB WP WN WG WH WM
end Go.Proofs.YtebcagekopgdhaaGreatDoor
namespace Go.Wk
open Go.RowKit
variable {b d i k t:Nat}{v:Value}{w w':World}
structure SF where
 p: Value->World->Prop
 st:∀ {v:Value} {w w':World},p v w->Ext w w'->p v w'
def SF.bk{cs:List Value}(h:Blk w b t cs): SF:=⟨λv _=>v=.agg cs.toArray,λh _=>h⟩
def SF.eq(c:Value): SF:=⟨λv _=>v=c,λh _=>h⟩
def depB(o:Oper)(k:Nat): Bool:=o.after.any λe=>Region.binds .any e && e.on == k
def slM(vs:Nat->Value)(al:AL): List Nat->Nat->AL
 | [],_=>al
 | d::r,i=>(d,vs i)::slM vs al r (i+1)
theorem Jfr{vs:Nat->Value}{al:AL}{t:Nat}: ∀ {ds:List Nat} {i:Nat},t ∉ ds->lk (slM vs al ds i) t=lk al t
 | [],_,_=>rfl
 | d::r,i,h=>by
  unfold slM;rw [Jjd _ _ (λe=>h (by rw [e];exact mC ..))];exact Jfr λh'=>h (List.mem_cons_of_mem _ h')
theorem Jfs{vs:Nat->Value}{al:AL}: ∀ {ds:List Nat} {i j:Nat},ds.Nodup->j<ds.length->lk (slM vs al ds i) (ds.getD j 0)=some (vs (i+j))
 | [],_,_,_,h=>by simp at h
 | d::r,i,0,_,_=>by unfold slM;simp [Jkg]
 | d::r,i,j+1,hn,hj=>by
  have hn':=List.nodup_cons.1 hn;have hj':j<r.length:=by simpa using hj
  unfold slM;have e:(d::r).getD (j+1) 0=r.getD j 0:=by simp
  rw [e];have hm:r.getD j 0∈r:=by rw [List.getD_eq_getElem?_getD,List.getElem?_eq_getElem hj'];exact List.getElem_mem hj'
  rw [Jjd _ _ (λe=>hn'.1 (by rw [e];exact hm)),Jfs hn'.2 hj'];congr 2;omega
theorem Jtq{ds:List Nat}(h:t∈ds): ∃ j,j<ds.length/\ds.getD j 0=t:=by
 obtain ⟨j,o,e⟩:=List.getElem_of_mem h;exact ⟨j,o,by rw [List.getD_eq_getElem?_getD,List.getElem?_eq_getElem o];exact e⟩
section
variable {P:Program} {n:Nat} {al:AL} {w:World} {Q:Exit->Act->World->Prop} {ops:Array Oper}
def toM(G:Act->World->Prop): Exit->Act->World->Prop
 | .normal,a,w=>G a w
 | _,_,_=>False
theorem Qvt{o:Oper}{G:Act->World->Prop}(ho:ops[i]?=some o)(h:WL P n ops (toM G) [o] al w): ∀ a,Fr n al a->wpOp P ops (QF Q) i G a w:=λa O=>by
 have u:=h a O;unfold wpList at u;unfold wpOp;simp only [ho];have C:¬ LetsOut (toM G):=by rintro ⟨a,w,h⟩;exact h
 split
 .rename_i hw;simp only [hw,if_true]at u;rcases u with u|⟨_,u⟩
  .left
   refine Oper.wp_mono (K:=wpList P ops (toM G) []) (λZ w' U=>U) ?_;unfold Oper.wp at u ⊢;exact Ve (Q:=toM G) (λc a w J=>J.elim) (λJ=>absurd J C) u
  .exact absurd u C
 .rename_i hw;simp only [hw]at u;exact u
def PM(n:Nat)(al:AL)(w:World)(d:Nat)(F:SF)(a:Act)(w':World): Prop:=∃ v,Fr n ((d,v)::al) a/\Ext w w'/\F.p v w'
theorem Zv{F:SF}(hx:Ext w w')(h:F.p v w'): QX n (toM (PM n al w d F)) .normal ((d,v)::al) w':=λa o=>⟨v,o,hx,h⟩
def fiM(Fs:List SF)(k:Nat)(v:Value)(w:World): Prop:=(Fs.getD k ⟨λ_ _=>True,λ_ _=>trivial⟩).p v w
theorem fiM.ext{Fs:List SF}{w:World}(h:fiM Fs k v w)(hx:Ext w w'): fiM Fs k v w':=SF.st _ h hx
def ndB: List Nat->Bool
 | []=>true
 | d::r=>!(r.any λx=>Nat.beq d x) && ndB r
theorem Jfc: ∀ {ds:List Nat},ndB ds=true->ds.Nodup
 | [],_=>List.nodup_nil
 | d::r,h=>by
  simp only [ndB,Bool.and_eq_true,Bool.not_eq_true']at h;refine List.nodup_cons.2 ⟨λhm=>?_,Jfc h.2⟩;have:=List.any_eq_false.1 h.1 d hm;simp at this
end
end Go.Wk
namespace Go.Wk
open Go.RowKit
variable {ds r us:List Nat}{l:List Oper}{Fs:List SF}{i j k:Nat}{w0:World}
section
variable {P:Program} {n:Nat} {al:AL} {w:World} {Q:Exit->Act->World->Prop} {ops:Array Oper}
def OpS(P:Program)(n:Nat)(ops:Array Oper)(al:AL)(w0:World)(us ds:List Nat)(Fs:List SF)(i:Nat)(o:Oper): Prop :=
 ∀ vs w1,Ext w0 w1->(∀ j,j<us.length->depB o (us.getD j 0)=true->fiM Fs j (vs j) w1)->WL P n ops (toM (PM n (slM vs al ds 0) w1 (ds.getD i 0) (Fs.getD i ⟨λ_ _=>True,λ_ _=>trivial⟩))) [o] (slM vs al ds 0) w1
def GoS(P:Program)(n:Nat)(l:List Oper)(al:AL)(w0:World)(us ds:List Nat)(Fs:List SF): Nat->List Nat->Prop
 | _,[]=>True
 | i,k::r=>(∀ o,nth l k=some o->OpS P n l.toArray al w0 us ds Fs i o)/\GoS P n l al w0 us ds Fs (i+1) r
theorem GoS.get{w0:World}{l:List Oper}{us ds:List Nat}{Fs:List SF}: ∀ {r:List Nat} {s i:Nat} {o:Oper},GoS P n l al w0 us ds Fs s r->i<r.length->nth l (r.getD i 0)=some o->OpS P n l.toArray al w0 us ds Fs (s+i) o
 | [],_,_,_,_,h,_=>by simp at h
 | x::r,s,0,o,h,_,e=>h.1 o e
 | x::r,s,i+1,o,h,h0,e=>by
  have:=GoS.get h.2 (by simpa using h0:i<r.length) (by simpa using e);rwa [show s+(i+1)=s+1+i by omega]
theorem gsc{o:Oper}(h:∀ vs w1,Ext w0 w1->(∀ j,(hj:j<us.length:=by decide)->(hk:depB o (us.getD j 0)=true:=by kernel_rfl)->fiM Fs j (vs j) w1)->WL P n l.toArray (toM (PM n (slM vs al ds 0) w1 (ds.getD i 0) (Fs.getD i ⟨λ_ _=>True,λ_ _=>trivial⟩))) [o] (slM vs al ds 0) w1)(h2:GoS P n l al w0 us ds Fs (i+1) r)(ho:nth l k=some o:=by rfl): GoS P n l al w0 us ds Fs i (k::r):=⟨λC u=>by rw [ho]at u;injection u with u;subst u;exact h,h2⟩
theorem gse: GoS P n l al w0 us ds Fs i []:=trivial
theorem Jfd(h:us.Nodup)(hi:i<us.length)(hj:j<us.length)(e:us.getD i 0=us.getD j 0): i=j:=by
 rw [List.getD_eq_getElem?_getD,List.getD_eq_getElem?_getD,List.getElem?_eq_getElem hi,List.getElem?_eq_getElem hj]at e;have o:=List.pairwise_iff_getElem.1 h;rcases Nat.lt_trichotomy i j with hlt|he|hlt
 .exact absurd e (o i j hi hj hlt)
 .exact he
 .exact absurd e.symm (o j i hj hi hlt)
end
end Go.Wk
namespace Go.Wk
open Go.RowKit
section
variable {P:Program} {n:Nat} {al:AL} {w:World} {Q:Exit->Act->World->Prop} {ops:Array Oper}
def stgQ(l:List Oper)(F q:Nat)(st st':Array Bool)(us:List Nat): Bool :=
 Nat.beq st.size l.length && Nat.beq st'.size l.length && ndB us && (us.all λk=>Nat.blt k l.length && !(st.getD k true)) &&
 (us.all λi=>match nth l i with
  | some o=>o.after.all λe=>!Region.binds .any e || (Nat.blt e.on l.length && st.getD e.on true) || (us.any (λj=>Nat.beq j e.on) && Nat.blt e.on i)
  | none=>false) &&
 ((List.range l.length).all λi=>st.getD i true || us.any (λj=>Nat.beq j i) || us.all λj=>Nat.beq j q || Yo l.toArray F i j) &&
 ((List.range l.length).all λi=>st'.getD i true == (st.getD i true || us.any λj=>Nat.beq j i))
theorem Qqb{T : Nat → Bool}{l : List Oper}(F q fuel' : Nat)(st st' : Array Bool)(us ds : List Nat)(Fs : List SF){fuel : Nat}(hc : (stgQ l F q st st' us && ndB ds && Nat.beq ds.length us.length && Nat.beq (us.length + fuel') fuel) = true)(hfree : (ds.all fun d => (lk al d).isNone) = true)(hop : GoS P n l al w us ds Fs 0 us)(Jjh : ∀ vs w1, Ext w w1 → (∀ j, (hj : j < us.length := by decide) → fiM Fs j (vs j) w1) → WH P n l.toArray Q T fuel' st' (slM vs al ds 0) w1)(hend2 : q < l.length → ∀ vs w1, Ext w w1 → (∀ j, (hj : j < us.length := by decide) → (hq : us.getD j 0 ≠ q := by decide) → fiM Fs j (vs j) w1) → WH P n l.toArray Q T (fuel' + 1) (st'.setIfInBounds q false) (slM vs al ds 0) w1): WH P n l.toArray Q T fuel st al w := fun hcl a ha => by
  simp only [Bool.and_eq_true] at hc
  obtain ⟨⟨⟨h0, h4⟩, h5⟩, h6⟩ := hc
  unfold stgQ at h0
  simp only [Bool.and_eq_true] at h0
  obtain ⟨⟨⟨⟨⟨⟨c1, c2⟩, c3⟩, c4⟩, c5⟩, c6⟩, c7⟩ := h0
  have hst : st.size = l.length := Nat.eq_of_beq_eq_true c1
  have hst' : st'.size = l.length := Nat.eq_of_beq_eq_true c2
  have hU := Jfc c3
  have hN := Jfc h4
  have hl : ds.length = us.length := Nat.eq_of_beq_eq_true h5
  have hfu : us.length + fuel' = fuel := Nat.eq_of_beq_eq_true h6
  have hfr : ∀ d ∈ ds, lk al d = none := fun d hd => by simpa using List.all_eq_true.1 hfree d hd
  have hUlt : ∀ j, j < us.length → us.getD j 0 < l.length ∧ st.getD (us.getD j 0) true = false := fun j hj => by
    have hm : us.getD j 0 ∈ us := by rw [List.getD_eq_getElem?_getD, gE hj]; exact List.getElem_mem _
    have := List.all_eq_true.1 c4 _ hm
    simp only [Bool.and_eq_true, Bool.not_eq_true'] at this
    exact ⟨by have h : us.getD j 0 + 1 ≤ l.length := by simpa [Nat.blt] using this.1
              omega, this.2⟩
  have hmem : ∀ k, (us.any fun j => Nat.beq j k) = true → ∃ j, j < us.length ∧ us.getD j 0 = k := fun k hk => by
    rw [List.any_eq_true] at hk
    obtain ⟨u, hu, e⟩ := hk
    have e := Nat.eq_of_beq_eq_true e
    subst e
    exact Jtq hu
  have hall : ∀ a : Act, Fr n al a → Fr n (slM (fun j => a.tmps.getD (ds.getD j 0) undef) al ds 0) a := fun a ha => ⟨ha.size, ha.defers, fun t v h => by
    by_cases hm : t ∈ ds
    . obtain ⟨j, hj, e⟩ := Jtq hm
      rw [← e, Jfs hN hj] at h
      simp only [Nat.zero_add, Option.some.injEq] at h
      rw [← e]; exact h
    . rw [Jfr hm] at h
      exact ha.has t v h⟩
  suffices key : ∀ (L : Nat) (ps : List Nat) (listed : Array Bool) (a : Act) (w1 : World), ps.length = L → ps.Nodup → (∀ j ∈ ps, j < us.length) → (∀ j, j < us.length → (listed.getD (us.getD j 0) true = false ↔ j ∈ ps)) → (∀ k, k < l.length → (∀ j, j < us.length → us.getD j 0 ≠ k) → listed.getD k true = st.getD k true) → listed.size = l.length → Closed l.toArray listed → Fr n al a → Ext w w1 →
      (∀ j, j < us.length → j ∉ ps → fiM Fs j (a.tmps.getD (ds.getD j 0) undef) w1) → Vz P l.toArray Q T (L + fuel') listed a w1 by
    have := key us.length (List.range us.length) st a w List.length_range List.nodup_range (fun j hj => List.mem_range.1 hj) (fun j hj => ⟨fun _ => List.mem_range.2 hj, fun _ => (hUlt j hj).2⟩) (fun k _ _ => rfl) hst hcl ha (Ext.refl w) fun j hj h => absurd (List.mem_range.2 hj) h
    rwa [hfu] at this
  intro L
  induction L with
  | zero =>
    intro ps listed a w1 hL hu hum hus hge hsz hcl ha hx hf
    have hnil : ps = [] := List.length_eq_zero_iff.1 hL
    subst hnil
    have e : listed = st' := by
      refine Array.ext_getElem? fun i => ?_
      by_cases hi : i < l.length
      . have h7 := List.all_eq_true.1 c7 i (List.mem_range.2 hi)
        rw [beq_iff_eq] at h7
        have h8 : listed.getD i true = st'.getD i true := by
          rw [h7]
          by_cases hm : ∃ j, j < us.length ∧ us.getD j 0 = i
          . obtain ⟨j, hj, e⟩ := hm
            have h1 := hus j hj
            rw [e] at h1
            have h2 : listed.getD i true = true := by
              cases hh : listed.getD i true with
              | true => rfl
              | false => exact absurd (h1.1 hh) (by simp)
            rw [h2]
            symm
            rw [Bool.or_eq_true]
            right
            rw [List.any_eq_true]
            refine ⟨us.getD j 0, ?_, by rw [e]; simp⟩
            rw [List.getD_eq_getElem?_getD, gE hj]; exact List.getElem_mem _
          . have h1 : ∀ j, j < us.length → us.getD j 0 ≠ i := fun j hj e => hm ⟨j, hj, e⟩
            rw [hge i hi h1]
            have h2 : (us.any fun j => Nat.beq j i) = false := by
              cases hh : us.any fun j => Nat.beq j i with
              | false => rfl
              | true => exact absurd (hmem i hh) hm
            rw [h2, Bool.or_false]
        have h9 : i < listed.size := by omega
        have h10 : i < st'.size := by omega
        simp [h9, h10] at h8
        simp [h9, h10, h8]
      . rw [Array.getElem?_eq_none om, Array.getElem?_eq_none om]
    rw [Nat.zero_add, e]
    rw [e] at hcl
    exact Jjh _ w1 hx (fun j hj => hf j hj (by simp)) hcl a (hall a ha)
  | succ L ih =>
    intro ps listed a w1 hL hu hum hus hge hsz hcl ha hx hf
    by_cases hq0 : ∀ p ∈ ps, us.getD p 0 = q
    . have hL0 : L = 0 := by
        rcases Nat.eq_zero_or_pos L with h | h
        . exact h
        . exfalso
          obtain ⟨x, y, r, rfl⟩ : ∃ x y r, ps = x :: y :: r := by
            match ps, hL with
            | [], h' => simp at h'
            | [x], h' => simp at h'; omega
            | x :: y :: r, _ => exact ⟨x, y, r, rfl⟩
          have h1 := hq0 x (by simp)
          have h2 := hq0 y (by simp)
          have h3 := Jfd hU (hum x (by simp)) (hum y (by simp)) (by rw [h1, h2])
          have := (List.nodup_cons.1 hu).1
          rw [h3] at this
          exact this (by simp)
      subst hL0
      obtain ⟨p, rfl⟩ : ∃ p, ps = [p] := List.length_eq_one_iff.1 om
      have hpq := hq0 p (by simp)
      have hpl := hum p (by simp)
      have hql := (hUlt p hpl).1
      rw [hpq] at hql
      have e : listed = st'.setIfInBounds q false := by
        refine Array.ext_getElem? fun i => ?_
        by_cases hi : i < l.length
        . have h7 := List.all_eq_true.1 c7 i (List.mem_range.2 hi)
          rw [beq_iff_eq] at h7
          have h8 : listed.getD i true = (st'.setIfInBounds q false).getD i true := by
            by_cases hiq : i = q
            . have h1 := (hus p hpl).2 (by simp)
              rw [hpq] at h1
              rw [hiq, h1]
              have : q < st'.size := by omega
              simp [this]
            . have h10 : (st'.setIfInBounds q false).getD i true = st'.getD i true := by
                have h9 : i < st'.size := by omega
                simp [h9, Ne.symm hiq]
              rw [h10, h7]
              by_cases hm : ∃ j, j < us.length ∧ us.getD j 0 = i
              . obtain ⟨j, hj, e⟩ := hm
                have h1 := hus j hj
                rw [e] at h1
                have h2 : listed.getD i true = true := by
                  cases hh : listed.getD i true with
                  | true => rfl
                  | false =>
                    have := List.mem_singleton.1 (h1.1 hh)
                    rw [this, hpq] at e
                    exact absurd e.symm hiq
                rw [h2]
                symm
                rw [Bool.or_eq_true]
                right
                rw [List.any_eq_true]
                refine ⟨us.getD j 0, ?_, by rw [e]; simp⟩
                rw [List.getD_eq_getElem?_getD, gE hj]; exact List.getElem_mem _
              . have h1 : ∀ j, j < us.length → us.getD j 0 ≠ i := fun j hj e => hm ⟨j, hj, e⟩
                rw [hge i hi h1]
                have h2 : (us.any fun j => Nat.beq j i) = false := by
                  cases hh : us.any fun j => Nat.beq j i with
                  | false => rfl
                  | true => exact absurd (hmem i hh) hm
                rw [h2, Bool.or_false]
          have h9 : i < listed.size := by omega
          have h10 : i < (st'.setIfInBounds q false).size := by rw [Array.size_setIfInBounds]; omega
          rw [Array.getElem?_eq_getElem h9, Array.getElem?_eq_getElem h10]
          rw [Array.getD, Array.getD, dif_pos h9, dif_pos h10] at h8
          exact congrArg some h8
        . rw [Array.getElem?_eq_none om, Array.getElem?_eq_none (by rw [Array.size_setIfInBounds]; omega)]
      rw [show 0 + 1 + fuel' = fuel' + 1 by omega, e]
      rw [e] at hcl
      exact hend2 hql _ w1 hx (fun j hj hq => hf j hj (fun h => hq (by rw [List.mem_singleton.1 h]; exact hpq))) hcl a (hall a ha)
    obtain ⟨p0, hp0, hpq0⟩ : ∃ p, p ∈ ps ∧ us.getD p 0 ≠ q := by
      refine Classical.byContradiction fun h => hq0 fun p hp => Classical.byContradiction fun h2 => h ⟨p, hp, h2⟩
    rw [show L + 1 + fuel' = (L + fuel') + 1 by omega]
    refine ⟨fun hr => ?_, fun i hi => ?_⟩
    . exfalso
      obtain ⟨p, hp, hmin⟩ : ∃ p, p ∈ ps ∧ ∀ q ∈ ps, us.getD p 0 ≤ us.getD q 0 := by
        have : ∀ s p, p ∈ ps → us.getD p 0 < s → ∃ p, p ∈ ps ∧ ∀ q ∈ ps, us.getD p 0 ≤ us.getD q 0 := by
          intro s
          induction s with
          | zero => intro p _ h; omega
          | succ s ihs =>
            intro p hp hps
            by_cases h : ∃ q, q ∈ ps ∧ us.getD q 0 < us.getD p 0
            . obtain ⟨q, hq, hlt⟩ := h
              exact ihs q hq om
            . exact ⟨p, hp, fun q hq => by
                rcases Nat.lt_or_ge (us.getD q 0) (us.getD p 0) with h' | h'
                . exact absurd ⟨q, hq, h'⟩ h
                . exact h'⟩
        exact this (us.getD p0 0 + 1) p0 hp0 om
      have hpm := hum p hp
      obtain ⟨hkl, _⟩ := hUlt p hpm
      have hk1 := (hus p hpm).2 hp
      have hr2 : us.getD p 0 ∈ Region.ready .any l.toArray listed := by
        refine mem_ready.2 ⟨hk1, l[us.getD p 0], by simp, fun e he hb => ?_⟩
        have hm : us.getD p 0 ∈ us := by rw [List.getD_eq_getElem?_getD, gE hpm]; exact List.getElem_mem _
        have h1 := List.all_eq_true.1 c5 _ hm
        have hn : nth l (us.getD p 0) = some l[us.getD p 0] := by rw [Xq]; simp
        rw [hn] at h1
        simp only [Array.all_eq_true_iff_forall_mem, Bool.or_eq_true, Bool.not_eq_true', Bool.and_eq_true] at h1
        have h2 := h1 e he
        rw [hb] at h2
        have h5 : listed.getD e.on true = true ∧ e.on < listed.size := by
          rcases h2 with (h2 | ⟨h3, h2⟩) | ⟨h2, h3⟩
          . cases h2
          . have h3' : e.on < l.length := by have : e.on + 1 ≤ l.length := by simpa [Nat.blt] using h3
                                             omega
            refine ⟨?_, by omega⟩
            by_cases hm2 : ∃ j, j < us.length ∧ us.getD j 0 = e.on
            . obtain ⟨j, hj, e2⟩ := hm2
              have := (hUlt j hj).2
              rw [e2, h2] at this; cases this
            . rw [hge _ h3' fun j hj e2 => hm2 ⟨j, hj, e2⟩]; exact h2
          . obtain ⟨j, hj, e2⟩ := hmem _ h2
            have h3' : e.on < us.getD p 0 := by have : e.on + 1 ≤ us.getD p 0 := by simpa [Nat.blt] using h3
                                                omega
            refine ⟨?_, by omega⟩
            cases hh : listed.getD e.on true with
            | true => rfl
            | false =>
              rw [← e2] at hh
              have h6 := (hus j hj).1 hh
              have := hmin j h6
              omega
        have h6 := h5.2
        have h7 := h5.1
        simp [h6] at h7 ⊢
        exact h7
      rw [hr] at hr2
      cases hr2
    . obtain ⟨hun, o, ho, hdep⟩ := mem_ready.1 hi
      have hol : l[i]? = some o := by simpa using ho
      have hil : i < l.length := (List.getElem?_eq_some_iff.1 hol).1
      obtain ⟨p, hpm, hpi⟩ : ∃ j, j < us.length ∧ us.getD j 0 = i := by
        refine Classical.byContradiction fun hno => ?_
        have h1 := List.all_eq_true.1 c6 i (List.mem_range.2 hil)
        simp only [Bool.or_eq_true] at h1
        have h2 := hge i hil fun j hj e => hno ⟨j, hj, e⟩
        rcases h1 with (h1 | h1) | h1
        . rw [h1] at h2; rw [h2] at hun; cases hun
        . exact hno (hmem i h1)
        . have hm : us.getD p0 0 ∈ us := by rw [List.getD_eq_getElem?_getD, gE (hum p0 hp0)]; exact List.getElem_mem _
          have h3 := List.all_eq_true.1 h1 _ hm
          rw [Bool.or_eq_true] at h3
          have h3 := h3.resolve_left fun h => hpq0 (Nat.eq_of_beq_eq_true h)
          have h4 := Jzt hcl F i (us.getD p0 0) o ho (Jzs ho hi) h3
          have h5 := (hus p0 (hum p0 hp0)).2 hp0
          have h6 : us.getD p0 0 < listed.size := by have := (hUlt p0 (hum p0 hp0)).1; omega
          generalize us.getD p0 0 = k0 at h4 h5 h6
          simp [h6] at h4 h5
          rw [h4] at h5; cases h5
      subst hpi
      have hps := (hus p hpm).1 hun
      have hO := GoS.get hop hpm (by rw [Xq]; exact hol)
      rw [Nat.zero_add] at hO
      have hW := hO (fun j => a.tmps.getD (ds.getD j 0) undef) w1 hx fun j hj hk => by
        unfold depB at hk
        rw [Array.any_eq_true'] at hk
        obtain ⟨e, he, h1⟩ := hk
        simp only [Bool.and_eq_true, beq_iff_eq] at h1
        have h2 := hdep e he h1.1
        rw [h1.2] at h2
        have h3 : us.getD j 0 < listed.size := by have := (hUlt j hj).1; omega
        refine hf j hj fun hk' => ?_
        have h4 := (hus j hj).2 hk'
        generalize us.getD j 0 = k0 at h2 h3 h4
        simp [h3] at h2 h4
        rw [h2] at h4; cases h4
      have h1 := Qvt (Q := Q) (ops := l.toArray) (by simpa using hol) hW a (hall a ha)
      refine wpOp_mono (fun a' w' h => ?_) h1
      obtain ⟨v, hfr', hx', hF⟩ := h
      have hdi : lk ((ds.getD p 0, v) :: slM (fun j => a.tmps.getD (ds.getD j 0) undef) al ds 0) (ds.getD p 0) = some v := Jkg _ _ _
      have hin : ds.getD p 0 ∈ ds := by rw [List.getD_eq_getElem?_getD, gE om]; exact List.getElem_mem _
      refine ⟨fun _ => hx', ih (ps.erase p) _ a' w' (by rw [List.length_erase_of_mem hps, hL]; omega) (hu.erase p) (fun j hj => hum j (hu.mem_erase_iff.1 hj).2) (fun j hj => ?_) (fun k h1 h2 => ?_) (by simp [hsz]) (hcl.step hi) ?_ (hx.trans hx') fun j hj hj' => ?_⟩
      . by_cases e : p = j
        . subst e
          have : us.getD p 0 < listed.size := by omega
          simp only [hu.mem_erase_iff]
          simp
        . rw [getD_set_ne true (fun e2 => e (Jfd hU hpm hj e2)), hus j hj, hu.mem_erase_iff]
          exact ⟨fun h => ⟨fun h' => e h'.symm, h⟩, fun h => h.2⟩
      . rw [getD_set_ne true (h2 p hpm)]; exact hge k h1 h2
      . refine ⟨hfr'.size, hfr'.defers, fun t u htu => ?_⟩
        have hm : t ∉ ds := fun hm => by rw [hfr t hm] at htu; cases htu
        exact hfr'.has t u (by rw [Jjd _ _ (fun e => hm (by rw [← e]; exact hin)), Jfr hm]; exact htu)
      . by_cases e : j = p
        . subst e
          rw [hfr'.has _ _ hdi]
          exact hF
        . have hk2 : j ∉ ps := fun h => hj' (hu.mem_erase_iff.2 ⟨e, h⟩)
          have hne : ds.getD p 0 ≠ ds.getD j 0 := fun h => e (Jfd hN om om h.symm)
          have h3 := hfr'.has (ds.getD j 0) _ (by rw [Jjd _ _ hne]; exact Jfs hN om)
          simp only [Nat.zero_add] at h3
          rw [h3]
          exact (hf j hj hk2).ext hx'
end
end Go.Wk
namespace Go.Proofs.YtebcagekopgdhaaGreatDoor
open Go.RowKit Pl Go.Wk
namespace Pl
variable {m:Nat}
def rkS(X:IX)(ds:List Bool)(q:Row): Nat->Nat
 | 0=>0
 | m+1=>rkS X ds q m+bef (ds.getD m false) (q.getD m V0) (X.E m (X.key m (q.take m)))*X.others m (q.take m)
section
variable {X:IX} {ds:List Bool} {q:Row}
theorem Jdl(h:X.Srt ds)(hm:m<q.length)(hg:X.Gp (q.take m)): X.Gp (q.take (m+1))↔q.getD m V0∈(X.E m (X.key m (q.take m))).map (·.1):=by
 have C:(q.take m).length=m:=by rw [List.length_take];omega
 have e:q.take (m+1)=q.take m++[q.getD m V0]:=by rw [List.take_succ_eq_append_getElem hm];simp [List.getD,hm]
 constructor
 .intro o;have u:=o m (by rw [List.length_take];omega);rw [List.take_take,Nat.min_eq_left om,h.d0,getD_take V0 om]at u;exact u
 .intro o;rw [e];exact AX.Gp.snoc hg (by rw [C];exact o)
theorem rk_inv(h:X.Srt ds)(hok:X.Ok)(hq:q.length<=X.F): ∀ m,m<=q.length->X.Gp (q.take m)->Ju ds (X.ext X.F []) q=rkS X ds q m+Ju ds (X.ext (X.F-m) (q.take m)) q
 | 0,_,_=>by simp [rkS]
 | m+1,hm,hg=>by
  have hg':X.Gp (q.take m):=by
   have:=hg.pre m;rwa [List.take_take,Nat.min_eq_left om]at this
  have hl:(q.take m).length=m:=by rw [List.length_take];omega
  have ih:=rk_inv h hok hq m om hg';have hmem:=(Jdl h om hg').1 hg;have e:X.F-m=(X.F-(m+1))+1:=om
  have h1:=h.cnt_step hok (n:=X.F-(m+1)) (y:=q.take m) (q:=q) (by rw [hl];omega) hq (by rw [hl];omega) (by rw [hl]);rw [hl]at h1;rw [if_pos hmem]at h1;have e2:q.take m++[q.getD m V0]=q.take (m+1):=by rw [List.take_succ_eq_append_getElem om];simp [List.getD,show m<q.length by omega]
  rw [e2]at h1;rw [ih,e,h1,rkS];omega
theorem rk_stop(h:X.Srt ds)(hok:X.Ok)(hq:q.length<=X.F)(hm:m<q.length)(hg:X.Gp (q.take m))(hn:¬ X.Gp (q.take (m+1))): Ju ds (X.ext X.F []) q=rkS X ds q (m+1):=by
 have u:(q.take m).length=m:=by rw [List.length_take];omega
 have e:X.F-m=(X.F-(m+1))+1:=om
 have C:=h.cnt_step hok (n:=X.F-(m+1)) (y:=q.take m) (q:=q) (by rw [u];omega) hq (by rw [u];omega) (by rw [u]);rw [u]at C;rw [if_neg λo=>hn ((Jdl h hm hg).2 o)]at C;rw [rk_inv h hok hq m om hg,e,C,rkS,Nat.add_zero]
theorem rk_end(h:X.Srt ds)(hok:X.Ok)(hq:q.length<=X.F)(hg:X.Gp q): Ju ds (X.ext X.F []) q=rkS X ds q q.length:=by
 have:=rk_inv h hok hq q.length (Nat.le_refl _) (by rw [List.take_length];exact hg);rw [this,List.take_length,AX.cnt_end,Nat.add_zero]
end
end Pl
theorem Jhl(ds:List Bool)(L:List Row)(q:Row): Ju ds L q<=L.length:=List.length_filter_le _ _
section
variable {f:Nat} {ds:List Bool} {kf:Nat->Nat} {pf:Nat->Int} {BB:Nat->List BkT} {tot:Nat} {L:List Row}
theorem IxP.rk_inv(ip:IxP f ds kf pf BB tot L)(ne:tot≠0){q:Row}(hq:q.length<=f){m:Nat}(hm:m<=q.length)(hg:(Qg f kf pf BB).Gp (q.take m)): rkS (Qg f kf pf BB) ds q m<=L.length:=by
 have u:=Pl.rk_inv (ip.srt ne) (ip.ok ne) (q:=q) hq m hm hg;have o:=Jhl ds L q;rw [ip.ans ne]at o ⊢;have:(Qg f kf pf BB).F=f:=rfl;rw [this]at u;omega
theorem IxP.rk_stop(ip:IxP f ds kf pf BB tot L)(ne:tot≠0){q:Row}(hq:q.length<=f){m:Nat}(hm:m<q.length)(hg:(Qg f kf pf BB).Gp (q.take m))(hn:¬ (Qg f kf pf BB).Gp (q.take (m+1))): Ju ds L q=rkS (Qg f kf pf BB) ds q (m+1):=by
 rw [ip.ans ne];exact Pl.rk_stop (ip.srt ne) (ip.ok ne) hq hm hg hn
theorem IxP.rk_end(ip:IxP f ds kf pf BB tot L)(ne:tot≠0){q:Row}(hq:q.length<=f)(hg:(Qg f kf pf BB).Gp q): Ju ds L q=rkS (Qg f kf pf BB) ds q q.length:=by
 rw [ip.ans ne];exact Pl.rk_end (ip.srt ne) (ip.ok ne) hq hg
theorem IxP.wi_len(ip:IxP f ds kf pf BB tot L)(ne:tot≠0){y:Row}(hy:y.length<=f)(hg:(Qg f kf pf BB).Gp y): (wiL L y).length=(Qg f kf pf BB).pend y.length y:=by
 rw [ip.wi_some ne hy hg];exact (ip.ok ne).ext_len _ y (by show y.length+(f-y.length)=f;omega)
end
open Go.RowKit Pl Go.Wk
variable {i:Nat}
section
variable {ds:List Bool} {L:List Row} {p:Row}
theorem hi_eq(ds:List Bool)(L:List Row)(p:Row): (L.filter λx=>decide (Jk (x.take p.length) p ds<=0)).length=Ju ds L p+(wiL L p).length:=by
 unfold Ju wiL;induction L with
 | nil=>rfl
 | cons x L ih=>
  simp only [List.filter_cons];by_cases h0:x.take p.length=p
  .have e:Jk (x.take p.length) p ds=0:=by rw [h0];exact Ze p ds
   rw [if_pos (show decide (Jk (x.take p.length) p ds<=0)=true by rw [e];rfl),if_neg (show ¬ decide (Jk (x.take p.length) p ds<0)=true by rw [e];decide),if_pos (by simpa using h0),List.length_cons,List.length_cons,ih];omega
  .have o:Jk (x.take p.length) p ds≠0:=λe=>h0 (Jjn _ _ ds e);rw [if_neg (show ¬ decide (x.take p.length=p)=true by simpa using h0)];by_cases h1:Jk (x.take p.length) p ds<0
   .rw [if_pos (by simpa using Int.le_of_lt h1),if_pos (by simpa using h1),List.length_cons,List.length_cons,ih];omega
   .rw [if_neg (by simp;omega),if_neg (by simpa using h1),ih]
theorem Qfb(h:Lt ds L)(hi:i<L.length)(he:(L.getD i []).take p.length=p): i=Ju ds L p+(wiL (L.take i) p).length:=by
 have e:Ju ds L p=Ju ds (L.take i) p+Ju ds (L.drop i) p:=by rw [<-Qxr,List.take_append_drop]
 have U:Ju ds (L.drop i) p=0:=Jhk λx u=>by
  obtain ⟨j,o,rfl⟩:=List.getElem_of_mem u;rw [List.getElem_drop];have G:Jk (L.getD i []) (L[i+j]'(by rw [List.length_drop]at o;omega)) ds<=0:=by
   rcases Nat.eq_zero_or_pos j with rfl|h'
   .simp only [Nat.add_zero,Jd [] _ hi];rw [Ze];exact Int.le_refl _
   .have:=Jfm h (i:=i) (j:=i+j) om (by rw [List.length_drop]at o;omega);rw [<-Jd [] _ (show i+j<L.length by rw [List.length_drop]at o;omega)];exact Int.le_of_lt this
  have k:=Jhm _ _ ds p.length G;rw [he]at k;have:=Jxt p ((L[i+j]'(by rw [List.length_drop]at o;omega)).take p.length) ds;omega
 have C:∀ x∈L.take i,Jk (x.take p.length) p ds<=0:=λx u=>by
  obtain ⟨j,o,rfl⟩:=List.getElem_of_mem u;rw [List.length_take]at o;rw [List.getElem_take];have:=Jfm h (i:=j) (j:=i) om hi;rw [Jd [] _ (show j<L.length by omega)]at this;have k:=Jhm _ _ ds p.length (Int.le_of_lt this);rwa [he]at k
 have O:(L.take i).filter (λx=>decide (Jk (x.take p.length) p ds<=0))=L.take i:=List.filter_eq_self.2 λx u=>by simpa using C x u
 have J:=hi_eq ds (L.take i) p;rw [O,List.length_take,Nat.min_eq_left om]at J;omega
theorem rk_at(h:Lt ds L)(hi:i<L.length)(hl:∀ x∈L,x.length=(L.getD i []).length): Ju ds L (L.getD i [])=i:=by
 have u:=Qfb h hi (p:=L.getD i []) (List.take_length ..);have G:wiL (L.take i) (L.getD i [])=[]:=by
  unfold wiL;refine List.filter_eq_nil_iff.2 λx o=>?_;obtain ⟨j,C,rfl⟩:=List.getElem_of_mem o;rw [List.length_take]at C;rw [List.getElem_take];have o:=hl _ (List.getElem_mem (show j<L.length by omega));rw [<-o,List.take_length];have:=Jfm h (i:=j) (j:=i) om hi;rw [Jd [] _ (show j<L.length by omega)]at this;simp only [decide_eq_true_eq];intro e;rw [e,Ze]at this;omega
 rw [G]at u;simpa using u.symm
end
open Go.RowKit Pl Go.Wk
attribute [local irreducible] WC WL QX WD WDB WP WN WG WH WM
variable {M' b b2 b3 b5 b6 k pc:Nat}{PA:Option Addr}{q:Row}
structure RkM(K:SeK)(w:World)(y:Row)(S:Nat->Bool)(M m:Nat)(fm:Lit->Option Value): Prop where
 gr:GrN (λk=>k=K.mb) K.w1 w
 map:MapS Tryz.prog 3 w K.mb m fm
 mle:m<=M
 pd:PdF K y S fm
def RkV(K:SeK)(w:World)(y:Row)(S:Nat->Bool)(M:Nat): Prop:=∃ m fm,RkM K w y S M m fm
structure RkB(K:SeK)(b2 b3 b5 b6:Nat)(PA:Option Addr)(pc:Nat)(q:Row): Prop where
 x:Blk K.w1 b2 31 [K.x0,K.x1,K.x2,K.x3,K.x4]
 p:Blk K.w1 b3 37 [.slice PA q.length pc]
 b:Blk K.w1 b5 25 [.slice K.BA K.f K.bc]
 m:Blk K.w1 b6 173 [.map (some K.mb)]
 n2:b2≠K.mb
 n3:b3≠K.mb
 n5:b5≠K.mb
 n6:b6≠K.mb
 row:RdR K.w0 PA q
 le:q.length<=pc
section
variable {K:SeK} {w w':World} {y:Row} {S:Nat->Bool} {M m:Nat} {fm:Lit->Option Value}
theorem RkM.ext(h:RkM K w y S M m fm)(hx:Ext w w'): RkM K w' y S M m fm:=⟨h.gr.trans (GrN.ext hx),h.map.ext hx,h.mle,h.pd⟩
theorem RkV.ext(h:RkV K w y S M)(hx:Ext w w'): RkV K w' y S M:=by obtain ⟨m,fm,h⟩:=h;exact ⟨m,fm,h.ext hx⟩
theorem RkV.same{S':Nat->Bool}(h:RkV K w y S M)(e:∀ c,c<K.f->S c=S' c): RkV K w y S' M:=by
 obtain ⟨m,fm,h⟩:=h;refine ⟨m,fm,⟨h.gr,h.map,h.mle,λc o G=>h.pd.1 c o ((e c o).trans G),λC J=>?_⟩⟩;obtain ⟨c,u,U,O⟩:=h.pd.2 C J;exact ⟨c,u,by rw [<-e c u];exact U,O⟩
theorem RkV.more(h:RkV K w y S M)(hM:M<=M'): RkV K w y S M':=by
 obtain ⟨m,fm,h⟩:=h;exact ⟨m,fm,h.gr,h.map,Nat.le_trans h.mle hM,h.pd⟩
theorem RkV.gr(h:RkV K w y S M): GrN (λk=>k=K.mb) K.w1 w:=by obtain ⟨m,fm,h⟩:=h;exact h.gr
theorem RkV.off(h:RkV K w y S M)(hg:GrN (λk=>k=b) w w')(hb:K.w1.heap.size<=b)(hF:SeF K): RkV K w' y S M:=by
 obtain ⟨m,fm,h⟩:=h;refine ⟨m,fm,?_,h.map.gr hg λe=>by have:=hF.m2;omega,h.mle,h.pd⟩;exact ((h.gr.mono λk _ h=>(.inl h:k=K.mb∨k=b)).trans (hg.mono λk _ h=>.inr h)).mono λk o h=>h.elim id λe=>by omega
theorem RkV.app(h:RkV K w y S M)(hF:SeF K)(hS:∀ c,c<K.f->S c=true->K.pf c<(y.length:Int))(z:Row): RkV K w (y++z) S M:=by
 obtain ⟨m,fm,h⟩:=h;exact ⟨m,fm,h.gr,h.map,h.mle,h.pd.app hF hS z⟩
theorem Qjh(hq:k<=q.length): (q.take k).length=k:=by rw [List.length_take];omega
def SF.key(K:SeK)(c:Nat)(y:Row): SF:=⟨λv w=>RowV w v (pmR (bk (K.kf c) 32) y),λh hx=>h.ext hx⟩
def SF.tr(K:SeK)(c:Nat)(y:Row): SF:=⟨λv _=>∃ d p,v=.tuple #[.agg #[.bool d,.pointer p],.bool (Zc (K.BB c) (pmR (bk (K.kf c) 32) y)).isSome]/\TrV (λ_=>False) K.w0 (K.t c y) (.pointer p)/\(K.t c y≠.nil->d=K.ds.getD c false),λh _=>h⟩
def SF.tr2(K:SeK)(c:Nat)(y:Row): SF:=⟨λv _=>∃ d p,v=.agg #[.bool d,.pointer p]/\TrV (λ_=>False) K.w0 (K.t c y) (.pointer p)/\(K.t c y≠.nil->d=K.ds.getD c false),λh _=>h⟩
def SF.tbox(s:Nat): SF:=⟨λv w=>∃ b,v=.pointer (some ⟨b,0,none⟩)/\s<=b/\Blk w b 138 [.bool false,.pointer none],λ⟨b,e,h1,h2⟩ hx=>⟨b,e,h1,h2.ext hx⟩⟩
theorem Jrt(hF:SeF K)(hb:RkB K b2 b3 b5 b6 PA pc q)(hV:RkV K w (q.take k) S M)(hM:M<=4096)(hg:K.X.Gp (q.take k))(hkq:k<=q.length)(hkf:k<=K.f){v:Int}(hv:v+1=(k:Int)):
  Ret Tryz.prog 110 [.int .i64 v,.pointer (some ⟨b5,0,none⟩),.pointer (some ⟨b2,0,none⟩),.pointer (some ⟨b3,0,none⟩),.pointer (some ⟨b6,0,none⟩)] w λu w'=>u=.tuple #[]/\GrN (λk=>k=K.mb) w w'/\RkV K w' (q.take k) (λc=>S c || decide (K.pf c=v)) (M+K.f):=by
 have bh:=hF.ip.f32;have a7:=Qjh hkq;refine Jz Tryz.func110 Tryz.ntmps110 rfl kr rfl ?_;refine ρ ?_;refine ld ((Jv hb.b hV.gr hb.n5).at (i:=0) rfl) ?_;refine ρ ?_;refine Qn (fun (c:Nat)=>[(0,.int .i64 v),(2,.pointer (some ⟨b2,0,none⟩)),(3,.pointer (some ⟨b3,0,none⟩)),(4,.pointer (some ⟨b6,0,none⟩)),(10,.slice K.BA K.f K.bc),(11,.int .i64 (K.f:Int)),(12,.int .i64 (c:Int))])
  (λc w'=>c<=K.f/\GrN (λk=>k=K.mb) w w'/\RkV K w' (q.take k) (λj=>S j || (decide (j<c) && decide (K.pf j=v))) (M+c)) (λc=>K.f-c) 0 sB
  ⟨Nat.zero_le _,GrN.refl _ _,hV.same λc _=>by simp⟩ ?_
 rintro c w1 ⟨hc,aa,a3⟩;refine ρ ?_;refine ci (λh=>?_) (λh=>?_)
 .have lc:c<K.f:=by have:=oT h;omega
  clear h;have an:=hF.bg w1 a3.gr;refine ρ ?_;refine ixq 3 c an lc ?_;refine ρ ?_;refine lds (cs:=Qv K.kf K.pf c) (Qkv an lc) ?_;refine ρ ?_;refine alc Jzh ?_;intro w2 bb ay b7 bf;refine ρ ?_;refine stb (cs':=Qv K.kf K.pf c) bf ?_ Jqx;intro w3 av aj ax;have J:Ext w1 w3:=ax w1 ay b7;refine ρ ?_;refine ld (av.at (i:=2) rfl) ?_;refine ρ ?_;refine ci (λh=>?_) (λh=>?_)
  .have hp:K.pf c=v:=Xf h;clear h;have a8:Ext w3 w3.drew:=(Ext.refl w3).drew;have aq:=a3.ext J;have ab:=aq.ext a8;have O:=hF.ext ab.gr;have a4:=Jv hb.x ab.gr hb.n2;have be:=Jv hb.p ab.gr hb.n3;have af:RdR w3.drew PA (q.take k):=by
    have:=(Rd.ext hb.row O).take (m:=k) hkq;rw [Jrm q hkq]at this;show Rd _ 3 PA (q.take k).length _;rw [a7];exact this
   have b1:=hF.ip.keyb hF.ne lc (m:=k) (by rw [hp];omega);have ak:=hF.ip.fitK hg c;have am:∀ {d:Bool},((Zc (K.BB c) (pmR (bk (K.kf c) 32) (q.take k))).isSome=true->d=K.ds.getD c false)->K.t c (q.take k)≠.nil->d=K.ds.getD c false:=fun {d} h hne=>h (by
    cases hi:Zc (K.BB c) (pmR (bk (K.kf c) 32) (q.take k)) with
    | none=>exact absurd (Jgp hi) hne
    | some i=>rfl)
   refine ρ ?_;refine drH (λi=>Nat.ble 14 i) ?_;refine Jkp 2 (lst 16 14) (fun (y:Bool×Option Addr×Nat)=>[(32,.agg #[.bool y.1,.pointer y.2.1]),(33,.bool (Zc (K.BB c) (pmR (bk (K.kf c) 32) (q.take k))).isSome),(8,.pointer (some ⟨y.2.2,0,none⟩)),(0,.int .i64 v),(2,.pointer (some ⟨b2,0,none⟩)),(3,.pointer (some ⟨b3,0,none⟩)),(4,.pointer (some ⟨b6,0,none⟩)),(6,.int .i64 (c:Int)),(10,.slice K.BA K.f K.bc),(11,.int .i64 (K.f:Int)),(12,.int .i64 (c:Int))])
    (λy W=>Ext w3.drew W/\Blk W y.2.2 138 [.bool false,.pointer none]/\w3.drew.heap.size<=y.2.2/\TrV (λ_=>False) K.w0 (K.t c (q.take k)) (.pointer y.2.1)/\(K.t c (q.take k)≠.nil->y.1=K.ds.getD c false)) ?_ ?_
   rotate_left
   .intro rest;refine Qqb 17 12 2 _ (lst 16 14) [0,1,2,3,4,5,6,7,8,9,10,11,12,13] [22,23,24,25,26,27,28,29,30,31,21,32,33,8] [SF.bk a4,SF.eq (.int .i64 (c:Int)),SF.bk a4,SF.eq (.int .i64 (c:Int)),SF.eq (.slice PA q.length pc),SF.eq (.int .i64 v),SF.eq (.int .i64 (k:Int)),SF.eq (.slice PA k pc),SF.key K c (q.take k),SF.tr K c (q.take k),SF.tr K c (q.take k),SF.tr2 K c (q.take k),SF.eq (.bool (Zc (K.BB c) (pmR (bk (K.kf c) 32) (q.take k))).isSome),SF.tbox w3.drew.heap.size] kr (by rfl) ?_ ?_ ?_
    .refine gsc (λvs U o C=>?_) ?_
     .simp only [slM];refine ldW (a4.ext o) ?_;refine ρ ?_;exact Zv (Ext.refl _) rfl
     refine gsc (λvs U o C=>?_) ?_
     .simp only [slM];refine ρ ?_;exact Zv (Ext.refl _) rfl
     refine gsc (λvs U o C=>?_) ?_
     .simp only [slM];refine ldW (a4.ext o) ?_;refine ρ ?_;exact Zv (Ext.refl _) rfl
     refine gsc (λvs U o C=>?_) ?_
     .simp only [slM];refine ρ ?_;exact Zv (Ext.refl _) rfl
     refine gsc (λvs U o C=>?_) ?_
     .simp only [slM];refine ld ((be.ext o).at (i:=0) rfl) ?_;refine ρ ?_;exact Zv (Ext.refl _) rfl
     refine gsc (λvs U o C=>?_) ?_
     .simp only [slM];refine ρ ?_;exact Zv (Ext.refl _) rfl
     refine gsc (λvs U o C=>?_) ?_
     .have e5:vs 5=_:=C 5;simp only [slM,e5];refine ρ ?_;exact Zv (Ext.refl _) (congrArg (Value.int .i64) hv)
     refine gsc (λvs U o C=>?_) ?_
     .have e4:vs 4=_:=C 4;have e6:vs 6=_:=C 6;have:=hb.le;simp only [slM,e4,e6];refine slh k ?_;refine ρ ?_;exact Zv (Ext.refl _) rfl
     refine gsc (λvs U o C=>?_) ?_
     .have e2:vs 2=_:=C 2;have e3:vs 3=_:=C 3;have e7:vs 7=_:=C 7;simp only [slM,e2,e3,e7];have ai:=Jgf (hF.ix.ext (O.trans o)) lc (c:=pc) (Rd.ext af o) (by have:=hb.le;omega) om (by rw [a7];exact b1);rw [a7]at ai;refine cl ai ?_;rintro uk W ⟨⟨KA,kc,rfl,ah,ag,a9,_⟩,hy⟩;exact Jp (Zv hy ⟨KA,kc,rfl,ah,ag,a9⟩)
     refine gsc (λvs U o C=>?_) ?_
     .have e0:vs 0=_:=C 0;have e1:vs 1=_:=C 1;obtain ⟨KA,kc,e8,ah,ag,a9⟩:=C 8;simp only [slM,e0,e1,e8];refine cl (Jyl (hF.tb.ext (O.trans o)) (O.trans o) hF.ix lc a9 ak) ?_;rintro u W ⟨d,p,rfl,Z,G,hy⟩;exact Jp (Zv hy ⟨d,p,rfl,Z,am G⟩)
     refine gsc (λvs U o C=>?_) ?_
     .obtain ⟨d,p,e9,Z,G⟩:=C 9;simp only [slM,e9];refine ρ ?_;exact Zv (Ext.refl _) ⟨d,p,rfl,Z,G⟩
     refine gsc (λvs U o C=>?_) ?_
     .obtain ⟨d,p,a2,Z,G⟩:=C 10;simp only [slM,a2];refine ρ ?_;exact Zv (Ext.refl _) ⟨d,p,rfl,Z,G⟩
     refine gsc (λvs U o C=>?_) ?_
     .obtain ⟨d,p,a2,Z,G⟩:=C 10;simp only [slM,a2];refine ρ ?_;exact Zv (Ext.refl _) rfl
     refine gsc (λvs U o C=>?_) gse
     .simp only [slM];refine alc Zo ?_;intro W b9 hy b8 a1;exact Jp (Zv hy ⟨b9,rfl,Nat.le_trans o.size b8,a1⟩)
    .intro vs W hy hf;obtain ⟨b9,ac,h9,a1⟩:=hf 13;obtain ⟨d,p,ad,Z,G⟩:=hf 11;have bi:vs 12=_:=hf 12;simp only [slM,ac,bi,ad];exact rest (d,p,b9) _ _ ⟨hy,a1,h9,Z,G⟩ sB
    .intro _ vs W hy hf;obtain ⟨b9,ac,h9,a1⟩:=hf 13;obtain ⟨d,p,ad,Z,G⟩:=hf 11;obtain ⟨d2,p2,a2,_,_⟩:=hf 10;simp only [slM,ac,ad,a2];refine Zu (fuel':=2) 12 kr kr rfl rfl ?_;refine ρp ?_;refine ρd ?_;refine Qd ?_;refine hlist (listed':=lst 16 14) kr ?_;exact rest (d,p,b9) _ _ ⟨hy,a1,h9,Z,G⟩ sB
   rintro ⟨d,p,b9⟩ W ⟨aw,au,ao,Z,C⟩;simp only at au ao Z C;refine Xo (fuel':=0) 17 [(2,14),(2,15)] (lst 16 16) kr kr rfl ?_;refine Jt ?_;refine stW au ?_;intro W2 ar bj ae;refine Jp (Qc ?_);refine Jt ?_;refine ρ ?_;refine Qc ?_;refine Yj (Qd ?_);refine Jjh kr ?_;have a5:Ext w3 W2:=ae w3 (a8.trans aw) (nL a8.size ao);have ba:=aq.ext a5;obtain ⟨m,fm,HW⟩:=id ba;refine ρ ?_;refine ld ((Jv hb.m HW.gr hb.n6).at (i:=0) rfl) ?_;refine ρ ?_;refine ldW ar ?_;refine ρ ?_;refine mup KI HW.map (by have:=HW.mle;unfold maxLen;omega) (Jjf (c:=c) om) ?_;intro W3 bd aj;have a6:GrN (λk=>k=K.mb) W2 W3:=GrN.by aj λk hk=>by injection hk with hk;exact hk.symm
   have ap:RkV K W3 (q.take k) (λj=>(S j || (decide (j<c) && decide (K.pf j=v))) || decide (j=c)) (M+(c+1)):=⟨_,_,HW.gr.trans a6,bd,by have:=HW.mle;omega,HW.pd.put bh lc Z C⟩;refine ρ ?_;refine Qy (c+1) sO ⟨lc,(aa.trans (GrN.ext (J.trans a5))).trans a6,ap.same λj _=>?_⟩ om;by_cases e:j=c
   .subst e;simp [hp]
   .have:(decide (j<c+1))=decide (j<c):=by by_cases h1:j<c<;>simp [h1]<;>omega
    rw [this];simp [e]
  .have hp:¬ K.pf c=v:=Xb h;clear h;refine ρ ?_;refine Qy (c+1) sO ⟨lc,aa.trans (GrN.ext J),((a3.ext J).same λj _=>?_).more om⟩ om;by_cases e:j=c
   .subst e;simp [hp]
   .have:(decide (j<c+1))=decide (j<c):=by by_cases h1:j<c<;>simp [h1]<;>omega
    rw [this]
 .have b4:c=K.f:=by have:=oF h;omega
  subst b4;clear h;refine ρ ?_;refine Uj ⟨rfl,aa,a3.same λj hj=>?_⟩;simp [hj]
theorem Jrq(hF:SeF K)(hb:RkB K b2 b3 b5 b6 PA pc q)(hV:RkV K w y S M):
  Ret Tryz.prog 113 [.pointer (some ⟨b6,0,none⟩)] w λu w'=>NatV w' u (K.X.prodS S y)/\Fresh w u/\Ext w w':=by
 have b8:=hF.ip.f32;obtain ⟨m,fm,H⟩:=id hV;have a2:=Jv hb.m H.gr hb.n6;obtain ⟨g,hg⟩:∃ g:(Lit->Bool)->Nat->Nat,g=λleft c=>if S c=true/\left (.int .i64 (c:Int))=false then K.X.T c y else 1:=⟨_,rfl⟩
 have ar:∀ left c,g left c<=4294967296^20:=λleft c=>by
  rw [hg];simp only;split
  .rw [K.T];exact hF.ip.big _ _
  .exact Nat.pow_pos (by decide)
 have ao:∀ left,Nb (Jc K.f (g left)):=λleft=>Nb.pow (k:=K.f) (Ih (Nat.pow_pos (by decide)) λc _=>ar left c) om;refine Jz Tryz.func113 Tryz.ntmps113 rfl kr rfl ?_;refine ρ ?_;refine cl (Iu 1 (by decide) _) ?_;rintro J w1 ⟨a8,ac,G⟩;refine ρ ?_;refine ld ((a2.ext G).at (i:=0) rfl) ?_;refine ρ ?_;refine rngm KI (H.map.ext G) ?_;intro w2 r cnt Z a7 af;have lr:w.heap.size<=r:=nL G.size a7;refine ρ ?_;refine Xd (fun (left:Lit->Bool) (cnt:Nat) (J:Value)=>[(2,J),(7,.pointer (some ⟨r,0,none⟩))])
  (λleft cnt J w'=>Ext w w'/\RgS Tryz.prog 3 w' K.mb r m fm left cnt/\NatX (λk=>k=r) w' J (Jc K.f (g left))/\Fresh w J) (λ_ cnt _=>cnt) _ cnt J sB ⟨G.trans Z,af,?_,ac⟩ ?_
 .have e:Jc K.f (g λkl=>(fm kl).isSome)=1:=Jdr λc hc=>by
   rw [hg];simp only;rw [if_neg];rintro ⟨h1,h2⟩;obtain ⟨d,p,h3,_⟩:=H.pd.1 c hc h1;rw [h3]at h2;cases h2
  rw [e];exact (NatX.old (N:=λ_=>False) ⟨a8,λ_ _ _ _ _ h=>h⟩ λk hk=>.inr (by rw [hk];exact a7)).ext Z
 clear a8 ac af Z G J cnt;rintro left cnt J w3 ⟨a4,ax,a1,au⟩;refine ρ ?_;refine nxtm KI ax (λhl=>?_) (λkey v kl w4 ag b1 aq ab ae ap a9 av=>?_)
 .refine ρ ?_;have e:Jc K.f (g left)=K.X.prodS S y:=Yh λc hc=>by
   rw [hg];simp only;rw [hl];simp
  rw [e]at a1;exact Jq ⟨a1.1,au,a4⟩
 .obtain ⟨c,hc,a6,rfl⟩:=H.pd.2 kl (by rw [ab];simp);obtain ⟨d,p,O,ht,_⟩:=H.pd.1 c hc a6;rw [ab]at O;injection O with O
  subst O;have U:Ext w w4:=a9.old a4 λk hk=>by rw [hk];exact lr
  refine ρ ?_;refine entm av ?_;refine ρ ?_;refine alc Zo ?_;intro w5 b5 aj aw ay;refine ρ ?_;refine stW ay ?_;intro w6 a2 b4 ai;have o:Ext w4 w6:=ai w4 aj aw;refine ρ ?_;refine ldW a2 ?_;refine ρ ?_;have a5:Ext K.w0 w6:=(hF.ext H.gr).trans (U.trans o);refine cl (Jch (ht.ext a5) (by rw [<-K.T];exact Nb.pow (k:=1) (by rw [Nat.pow_one,K.T];exact hF.ip.big _ _) om)) ?_;rintro ut w7 ⟨ak,b7,C⟩;have an:NatV w7 J (Jc K.f (g left)):=(((a1.gr a9).ext o).ext C).1;refine ρ ?_;refine cl (Kw an ak (ao left).len (Nb.len (Nb.pow (k:=1) (by rw [Nat.pow_one];exact hF.ip.big _ _) om))) ?_;rintro ur w8 ⟨am,aa,a3⟩;refine ρ ?_;refine Qs _ ag ur sO ⟨((U.trans o).trans C).trans a3,((ae.ext o).ext C).ext a3,?_,λad m c e=>?_⟩ ap
  .have ah:r<w7.heap.size:=nM (ae.lt) (o.trans C).size;have e:Jc K.f (g λz=>left z && !z.sameKey (.int .i64 (c:Int)))=Jc K.f (g left)*(K.t c y).sum:=by
    rw [Jzx hc,Jzx (g:=g left) hc];have h1:g left c=1:=by rw [hg];simp only;rw [if_neg];rintro ⟨_,h2⟩;rw [aq]at h2;cases h2
    have h2:g (λz=>left z && !z.sameKey (.int .i64 (c:Int))) c=(K.t c y).sum:=by
     rw [hg];simp only;rw [if_pos ⟨a6,by rw [WideAt.sameKey_self (Jyg om)];simp⟩,K.T]
    rw [h1,h2,Nat.one_mul,Nat.mul_comm];congr 1
    refine Yh λj hj=>?_;by_cases ej:j=c
    .rw [if_pos ej,if_pos ej]
    .rw [if_neg ej,if_neg ej,hg];simp only;have:(Lit.int .i64 (j:Int)).sameKey (.int .i64 (c:Int))=false:=Maps.sameKey_ne λe'=>ej (Jyb e');simp only [this,Bool.not_false,Bool.and_true]
   rw [e];exact aa.x am λk hk=>by rw [hk];exact ah
  .exact nL (((U.trans o).trans C).size) (aa ad m c e)
end
open Go.RowKit Pl Go.Wk
variable {B0 c m n pc:Nat}{q z:Row}{K:SeK}
def tt2: TT:=(131,{ desc:=.invalid,size:=4,offs:=[0,1,2,3] })::tt
theorem Jnn: TOk Tryz.prog tt2:=⟨⟨_,Tryz.underlying131,kr,kr⟩,Jqf⟩
instance:Tab Tryz.prog tt2:=⟨Jnn,mixed⟩
theorem Jwl: Qp Tryz.prog 131=some (.agg #[.slice none 0 0,.slice none 0 0,.bool false,.int .i64 0]):=kr
theorem zBags: Qp Tryz.prog 25=some (.slice none 0 0):=kr
theorem zMapT: Qp Tryz.prog 173=some (.map none):=kr
theorem Jpc{g:Nat->Nat}(h:n<=m): Qw n g<=Qw m g:=by
 induction h with
 | refl=>exact Nat.le_refl _
 | step h ih=>rw [Qw];omega
theorem Jbl(d:Bool)(v:V): ∀ t:Tr,Tr.befT d v t<=t.sum
 | .nil=>Nat.le_refl _
 | .node l a y r=>by
  have h1:=Jbl d v l;have h2:=Jbl d v r;rw [Tr.befT,Tr.sum];split
  .omega
  .split<;>omega
theorem SeF.bef(hF:SeF K)(hc:c<K.f){d:Bool}(hd:K.t c z≠.nil->d=K.ds.getD c false)(v:V):
  Tr.befT d v (K.t c z)=bef (K.ds.getD c false) v (K.X.E c (K.X.key c z)):=by
 rw [K.E];by_cases h:K.t c z=.nil
 .rw [h];rfl
 .have o:Ij d (K.t c z).toL:=by
   rw [hd h,<-K.E];exact (hF.ip.srt hF.ne).srt c hc _
  rw [(Tr.befT_eq o).1,hd h]
theorem SeF.onb(hF:SeF K)(m:Nat)(z:Row): Nb (K.X.others m z):=by
 refine Nb.pow (k:=K.f) (Ih (Nat.pow_pos (by decide)) λc _=>?_) hF.ip.f32;split
 .rw [K.T];exact hF.ip.big _ _
 .exact Nat.pow_pos (by decide)
theorem SeF.rk_le(hF:SeF K)(hq:q.length<=K.f)(hm:m<=q.length)(hg:K.X.Gp (q.take m)): Nb (rkS K.X K.ds q m) :=
 hF.ip.nbT.le (by have:=hF.ip.rk_inv hF.ne hq hm hg;rw [hF.ip.len];exact this)
section
variable {f:Nat} {ds:List Bool} {kf:Nat->Nat} {pf:Nat->Int} {BB:Nat->List BkT} {tot:Nat} {L:List Row}
theorem Qxb{w:World}{x:Value}{PA:Option Addr}(tb:TB B0 w)(ix:IxV w x f ds kf pf BB tot)(ip:IxP f ds kf pf BB tot L)(ne:tot≠0)(hq:RdR w PA q)(hqc:q.length<=pc)(hqf:q.length<=f):
  Ret Tryz.prog 70 [x,.slice PA q.length pc] w λu w'=>∃ (bv cv:Value) (st:Nat),u=.agg #[bv,cv,.bool (decide (0<(wiL L q).length)),.int .i64 (st:Int)]/\NatV w' bv (Ju ds L q)/\NatV w' cv (wiL L q).length/\(st<=Qw f λv=>hmB (BB v))/\Ext w w':=by
 obtain ⟨DA,dc,BA,cb,KA,ck,g4,cp,tv,gk,gf,rfl,gu,gw,hD,hB,hK,hP,f3,gl⟩:=id ix.ex;obtain ⟨TA,tc,rfl,_⟩:=id f3;have h4:=ip.f32;refine Jz Tryz.func70 Tryz.ntmps70 rfl kr rfl ?_;refine ρ ?_;refine bx ?_;intro w1 b2 f0 gz cw;refine ρ ?_;refine bx ?_;intro w2 b3 ba gy eh;refine ρ ?_;refine alc Jwl ?_;intro w3 b4 af gx ef;have d7:=f0.trans ba;have ak:=d7.trans af;refine ρ ?_;refine ldW ((cw.ext ba).ext af) ?_;refine ρ ?_;refine cl (Jgg (ix.ext ak)) ?_;rintro u w4 ⟨⟨A,c,rfl,hc,hR,hf⟩,a5⟩;refine ρ ?_;refine alc zBags ?_;intro w5 b5 ez fk g0;refine ρ ?_;refine Gv g0 ?_ rfl;intro w6 bu gq ey;have U:Ext w4 w6:=ey w4 ez fk;refine ρ ?_;refine mkm 3 ?_;intro w7 mb d5 gn hM;refine ρ ?_;refine alc zMapT ?_;intro w8 b6 ew fj fz;refine ρ ?_;refine Gv fz ?_ rfl;intro w9 ec dm eu;have ai:Ext w7 w9:=eu w7 ew fj;have bf:=d5.trans ai;have a4:=U.trans bf;have bg:=ak.trans (a5.trans a4)
 have e8:=hM.ext ai;have ei:=((cw.ext ba).ext af).ext (a5.trans a4);have eg:=(eh.ext af).ext (a5.trans a4);have ee:=ef.ext (a5.trans a4);have ed:=bu.ext bf;have gg:=hM.lt;have l1:=cw.lt;have l2:=eh.lt;have l3:=ef.lt;have l5:=bu.lt;have z1:=(ba.trans (af.trans (a5.trans U))).size;have z2:=(af.trans (a5.trans U)).size;have z3:=(a5.trans U).size;have z4:=U.size;have z7:=d5.size;have g6:=ai.size;have z0:=(ak.trans (a5.trans U)).size;have g8:=bg.size;obtain ⟨K,ay⟩:∃ K:SeK,K=⟨B0,w,w9,mb,w9.heap.size,.slice DA f dc,.slice BA f cb,.slice KA f ck,.slice g4 f cp,.slice TA (Jj tot).length tc,A,c,f,ds,kf,pf,BB,tot,L⟩:=⟨_,rfl⟩;have dz:Off (λk=>k=mb) w9 (λu=>Rd u 3 A f (Qf f (Qv kf pf))):=Jdq (hR.ext a4) λh0 ad e (e2:ad.block=mb)=>by
  obtain ⟨h5,e',f9⟩:=hR.2 h0;rw [e]at e';injection e' with e'
  have:=f9.1;rw [<-e']at this;omega
 have o:SeF K:=by
  subst ay;exact ⟨tb,ix,ip,ne,bg,by show w.heap.size<=mb;omega,e8.lt,Nat.le_refl _,hc,dz,Jsx⟩
 have J:RkB K b2 b3 b5 b6 PA pc q:=by
  subst ay;exact ⟨ei,eg,ed,ec,by show b2≠mb;omega,by show b3≠mb;omega,by show b5≠mb;omega,by show b6≠mb;omega,hq,hqc⟩
 have fq:RkV K w9 (q.take 0) (λ_=>false) 0:=by
  subst ay;exact ⟨0,λ_=>none,GrN.refl _ _,e8,Nat.le_refl _,λc _ h=>(by cases h),λkl h=>absurd rfl h⟩
 have g1:K.f=f/\K.ds=ds/\K.kf=kf/\K.pf=pf/\K.BB=BB/\K.tot=tot/\K.L=L/\K.w1=w9/\K.w0=w/\K.mb=mb:=by subst ay;exact ⟨rfl,rfl,rfl,rfl,rfl,rfl,rfl,rfl,rfl,rfl⟩
 obtain ⟨rfl,rfl,rfl,rfl,rfl,rfl,rfl,f2,c6,bm⟩:=g1;clear ay;have df:∀ c,c<K.f->K.pf c<(c:Int):=λc hc=>(o.ip.par ne hc).2;have fc:K.X.Ok:=o.ip.ok ne;have fb:∀ v z,(K.t v z).ht<=hmB (K.BB v):=λv z=>Jnt _ _;have dj:∀ v z,(K.t v z).ht<=65536:=λv z=>nL (Tr.ht_le _) (o.ip.siz _ _);have bi:∀ v z,Nb (K.t v z).sum:=λv z=>Nb.pow (k:=1) (by rw [Nat.pow_one];exact o.ip.big _ _) om;have da:∀ v z,(K.t v z).sz<=1000000:=λv z=>nL (o.ip.siz _ _) (by decide);refine ρ ?_;refine alc Jwl ?_;intro gc C aj fi eb;refine ρ ?_;refine clv (Jrt (k:=0) o J (fq.ext aj) om (AX.Gp.nil) (Nat.zero_le _) (Nat.zero_le _) (v:=-1) rfl) ?_;rintro u gb ⟨rfl,av,ax⟩;have l9:=eb.lt;have g7:=aj.size;have n9:¬ C=K.mb:=by rw [bm];omega
 have n4:¬ b4=K.mb:=by rw [bm];omega
 have b7:=Jv eb av n9;have b8:=Jv (ee.ext aj) av n4;have cz:b4≠C:=om
 have cy:K.w1.heap.size<=C:=by rw [f2];exact fi
 refine ρ ?_;refine ld ((Jv J.p ax.gr J.n3).at (i:=0) rfl) ?_;refine ρ ?_;refine Xd (fun (i:Nat) (bv:Value) (st:Nat)=>[(4,.pointer (some ⟨b4,0,none⟩)),(6,.pointer (some ⟨b6,0,none⟩)),(7,.func (.func 110) #[] #[.pointer (some ⟨b5,0,none⟩),.pointer (some ⟨b2,0,none⟩),.pointer (some ⟨b3,0,none⟩),.pointer (some ⟨b6,0,none⟩)]),(8,.func (.func 113) #[] #[.pointer (some ⟨b6,0,none⟩)]),(9,.pointer (some ⟨C,0,none⟩)),(23,.slice PA q.length pc),(24,.int .i64 (q.length:Int)),(25,.int .i64 (i:Int))])
  (λi bv st w'=>i<=q.length/\K.X.Gp (q.take i)/\RkV K w' (q.take i) (pS K.pf i i) (32*(i+1))/\Blk w' C 131 [bv,.slice none 0 0,.bool false,.int .i64 (st:Int)]/\Blk w' b4 131 [.slice none 0 0,.slice none 0 0,.bool false,.int .i64 0]/\NatX (λk=>k=K.mb∨k=C∨k=b4) w' bv (rkS K.X K.ds q i)/\(st<=Qw i λv=>hmB (K.BB v))/\st<=65536*i) (λi _ _=>q.length-i) 0 (.slice none 0 0) 0 sB
  ⟨Nat.zero_le _,AX.Gp.nil,?_,b7,b8,NatX.nil _,Nat.le_refl _,Nat.le_refl _⟩ ?_
 .refine (ax.same λc hc=>?_).more om;have:=o.ip.par ne hc;unfold pS;rw [Bool.eq_iff_iff];simp only [Bool.or_eq_true,Bool.and_eq_true,decide_eq_true_eq];constructor
  .rintro (h|h)
   .cases h
   .exact ⟨Nat.zero_le _,om⟩
  .rintro ⟨_,h⟩;right;omega
 clear b7 b8 ax av;rintro i bv st v5 ⟨hi,ag,a9,cr,cn,aw,f6,gm⟩;have ce:(q.take i).length=i:=Qjh hi;have d6:=o.ext a9.gr;refine ρ ?_;refine ci (λh=>?_) (λh=>?_)
 .have li:i<q.length:=by have:=oT h;omega
  have a8:i<K.f:=om
  clear h;have de:=Rd.ext hq (c6 ▸ d6);refine ρ ?_;refine ixq 3 i de li ?_;refine ρ ?_;refine lds (cs:=(q.getD i V0).cells) (λj u' ca=>RdR.cell de li ca) ?_;refine ρ ?_;refine alc (cs:=V0.cells) Ub ?_;intro v6 g3 ae e1 bz;refine ρ ?_;refine stb (cs':=(q.getD i V0).cells) bz ?_ (V.one _);intro v7 fy dn et;have ah:Ext v5 v7:=et v5 ae e1;have fo:=a9.ext ah;obtain ⟨m0,fm,H⟩:=id fo;obtain ⟨d,p,ff,hT,hd⟩:=H.pd.1 i a8 (by unfold pS;simp [df i a8]);refine ρ ?_;refine ld ((Jv J.m H.gr J.n6).at (i:=0) rfl) ?_;refine ρ ?_;refine mlk KI H.map Qvj (Jjf (c:=i) om) ?_;rw [ff];refine ρ ?_;refine alc Zo ?_;intro v8 g2 er e0 bw;refine ρ ?_;refine stW bw ?_;intro v9 cx bo c3;have aa:Ext v7 v9:=c3 v7 er e0;have H9:=H.ext aa;refine ρ ?_;refine ld ((Jv J.m H9.gr J.n6).at (i:=0) rfl) ?_;refine ρ ?_;refine mdn KI H9.map (Jjf (c:=i) om) ?_;intro c1 e9 dq;have a1:GrN (λk=>k=K.mb) v9 c1:=GrN.by dq λk hk=>by injection hk with hk;exact hk.symm
  have g5:K.mb<v7.heap.size:=H.map.lt;have bn:K.mb<v5.heap.size:=nM o.m2 a9.gr.size;have gj:=bz.lt;have ga:=ah.size;have g9:=aa.size;have gi:=bw.lt;have eo:¬ g3=K.mb:=om
  have en:¬ g2=K.mb:=om
  have bq:RkV K c1 (q.take i) (pS K.pf (i+1) i) (32*(i+1)):=RkV.same ⟨_,_,H9.gr.trans a1,e9,H9.mle,H9.pd.drop o.ip.f32 a8⟩ λc _=>Jdw;have bd:=Jv (fy.ext aa) a1 eo;have bc:=Jv cx a1 en;have a2:GrN (λk=>k=K.mb) v5 c1:=((GrN.ext ah).trans (GrN.ext aa)).trans a1;have ea:=Jv cr a2 n9;have bs:=Jv cn a2 n4;have cj:=aw.gr (a2.mono λk _ h=>.inl h);refine ρ ?_;refine ldW bc ?_;refine ρ ?_;refine lds (cs:=(q.getD i V0).cells) (λj u' ca=>bd.at ca) ?_;refine ρ ?_;have c5:=o.ext bq.gr;refine cl (Qkp (hT.ext c5) (bi _ _) (da _ _)) ?_;rintro u c0 ⟨sv,e,rfl,he,f5,d4⟩;have c2:Ext c0 c0.drew:=(Ext.refl c0).drew;have O:=d4.trans c2;have e3:=bq.ext O;have co:=ea.ext O;have dv:=cj.ext O;have gt:=fb i (q.take i);have gs:=dj i (q.take i);refine ρ ?_;refine drN (λ_=>False) 10 [(0,0),(0,1),(0,2),(0,3),(1,4),(1,5),(1,6),(0,7),(2,8)] kr ?_;refine ρn ?_;refine nld (λw' hg=>(co.ext hg.toExt).at (i:=0) rfl) ?_
  refine ρn ?_;refine nop ?_;refine clv (Jrq o J e3) ?_;rw [Jsf];rintro pv em ⟨f8,_,G⟩;refine ρ ?_;refine Jg (GrN.ext G) ?_;refine ρn ?_;refine nop ?_;have db:=(f5.ext c2).ext G;refine cl (Kw db f8 ((bi i (q.take i)).le (Jbl _ _ _)).len (o.onb _ _).len) ?_;rintro mv gd ⟨di,_,ab⟩;rw [o.bef a8 hd]at di;refine ρ ?_;refine Jg (GrN.ext ab) ?_;refine ρn ?_;refine nop ?_;have ch:=((dv.ext G).ext ab).1;have cd:Nb (bef (K.ds.getD i false) (q.getD i V0) (K.X.E i (K.X.key i (q.take i)))*K.X.others i (q.take i)):=by
   refine (o.pnb i (q.take i)).le ?_;have h1:=fc.pend_split (y:=q.take i) (by rw [ce];exact a8);rw [ce]at h1;rw [h1,<-o.bef a8 hd,K.T];exact nO _ (Jbl _ _ _)
  refine cl (Ky ch di (o.rk_le hqf hi ag).len cd.len) ?_;rintro ge d1 ⟨ao,dt,be⟩;have f7:rkS K.X K.ds q i+bef (K.ds.getD i false) (q.getD i V0) (K.X.E i (K.X.key i (q.take i)))*K.X.others i (q.take i)=rkS K.X K.ds q (i+1):=rfl;rw [f7]at ao;obtain ⟨ZA,zc,rfl,_⟩:=id ao;refine ρ ?_;refine Jg (GrN.ext be) ?_;refine ρn ?_;have Z:=(G.trans ab).trans be;have el:=c2.trans Z;have b1:=co.ext Z;refine Xv ?_;refine sto (b1.at (i:=0) rfl) (b1.frozen 0) ?_;obtain ⟨a3,an⟩:∃ a3,a3=d1.setCell ((⟨C,0,none⟩:Addr).add 0) (.slice ZA (Jj (rkS K.X K.ds q (i+1))).length zc):=⟨_,rfl⟩;rw [<-an];have au:GrN (λk=>k=C) d1 a3:=by rw [an];exact GrN.set _ rfl
  have ac:Blk a3 C 131 [.slice ZA (Jj (rkS K.X K.ds q (i+1))).length zc,.slice none 0 0,.bool false,.int .i64 (st:Int)]:=by rw [an];exact b1.set 0 _
  have e5:=(e3.ext Z).off au cy o;have e7:=Jv ((bs.ext O).ext Z) au cz;have ep:C<em.heap.size:=(co.ext G).lt;have dh:NatX (λk=>k=K.mb∨k=C∨k=b4) a3 (.slice ZA (Jj (rkS K.X K.ds q (i+1))).length zc) (rkS K.X K.ds q (i+1)):=by
   refine NatX.gr (N:=λk=>k=K.mb∨k=C∨k=b4) ⟨ao,λh0 ad m c e=>?_⟩ (au.mono λk _ h=>.inr (.inl h));have h1:=dt ad m c e;have h2:=ab.size;have h3:=(bs.ext (O.trans G)).lt;rintro (h|h|h)
   .have:=nM bn (a2.size);have:=(O.trans G).size;omega
   .omega
   .omega
  refine ω5 ?_;refine Um ?_;refine ρn ?_;refine ρ ?_;refine ld (ac.at (i:=3) rfl) ?_;refine ρ ?_;refine sto (ac.at (i:=3) rfl) (ac.frozen 3) ?_;obtain ⟨a7,am⟩:∃ a7,a7=a3.setCell ((⟨C,0,none⟩:Addr).add 3) (.int .i64 ((st+e:Nat):Int)):=⟨_,rfl⟩;have c9:a3.setCell ((⟨C,0,none⟩:Addr).add 3) (.int .i64 ((st:Int)+(e:Int)))=a7:=am.symm;refine Eq.mpr (congrArg _ c9) ?_;have ar:GrN (λk=>k=C) a3 a7:=by rw [am];exact GrN.set _ rfl
  have bt:Blk a7 C 131 [.slice ZA (Jj (rkS K.X K.ds q (i+1))).length zc,.slice none 0 0,.bool false,.int .i64 ((st+e:Nat):Int)]:=by rw [am];exact ac.set 3 _
  have bp:=e5.off ar cy o;have br:=Jv e7 ar cz;have bj:=dh.gr (ar.mono λk _ h=>.inr (.inl h));have dx:=o.has a8 (z:=q.take i) hd (q.getD i V0);have dd:(st+e<=Qw (i+1) λv=>hmB (K.BB v)):=by rw [Qw];omega
  have dl:K.X.Gp (q.take (i+1))↔Tr.hasT d (q.getD i V0) (K.t i (q.take i))=true:=(Jdl (o.ip.srt ne) li ag).trans dx.symm;refine ρ ?_;refine ci (λh=>?_) (λh=>?_)
  .have dg:¬ K.X.Gp (q.take (i+1)):=λhg=>by
    rw [dl.1 hg]at h;cases h
   clear h;have bh:wiL K.L q=[]:=o.ip.wi_none ne λhg=>dg (hg.pre (i+1));refine ρ ?_;refine ldW bt ?_;refine ρ ?_;refine stW br ?_;intro d0 e6 a6 d3;refine ρ ?_;have c4:=d3 w (c6 ▸ o.ext bp.gr) om;have cg:GrN (λk=>k=b4) a7 d0:=GrN.by a6 λk hk=>by injection hk with hk;exact hk.symm
   refine Jjl e6 ⟨_,_,st+e,by rw [bh];rfl,?_,?_,Nat.le_trans dd (Jpc om),c4⟩
   .rw [o.ip.rk_stop ne hqf li ag dg];exact (bj.gr (cg.mono λk _ h=>.inr (.inr h))).1
   .rw [bh];exact NatV.nil _
  .have d2:Tr.hasT d (q.getD i V0) (K.t i (q.take i))=true:=by
    cases hh:Tr.hasT d (q.getD i V0) (K.t i (q.take i)) with
    | true=>rfl
    | false=>rw [hh]at h;cases h
   clear h;have dk:=dl.2 d2;have f4:q.take (i+1)=q.take i++[q.getD i V0]:=Ql V0 li;have cm:RkV K a7 (q.take (i+1)) (pS K.pf (i+1) i) (32*(i+1)):=by
    rw [f4];exact bp.app o (λc _ hs=>by
     rw [ce];unfold pS at hs;simp only [Bool.and_eq_true,decide_eq_true_eq]at hs;exact hs.2) _
   refine ρ ?_;refine clv (Jrt (k:=i+1) o J cm om dk om om (v:=(i:Int)) om) ?_;rintro u d0 ⟨rfl,a6,e4⟩;refine ρ ?_;exact Qs (i+1) _ (st+e) sO ⟨li,dk,(e4.same λc hc=>Jdx (df c hc)).more om,Jv bt a6 n9,Jv br a6 n4,bj.gr (a6.mono λk _ h=>.inl h),dd,om⟩ om
 .have fa:i=q.length:=by have:=oF h;omega
  clear h;subst fa;rw [List.take_length]at ag a9;refine ρ ?_;refine clv (Jrq o J a9) ?_;rw [Jsd];rintro cv v6 ⟨du,fg,ae⟩;obtain ⟨ek,ej,rfl,_⟩:=id aw.1;obtain ⟨CA,cc,rfl,_⟩:=id du;have cq:=cr.ext ae;have fw:=cn.ext ae;have fp:=a9.ext ae;have dw:=aw.ext ae;have ep:=cr.lt;have gh:=cn.lt;have bn:K.mb<v5.heap.size:=nM o.m2 a9.gr.size;have fh:NatX (λk=>k=K.mb∨k=C∨k=b4) v6 (.slice CA (Jj (K.X.pend q.length q)).length cc) (K.X.pend q.length q):=⟨du,λ_ ad m c e=>by
   have:=fg ad m c e;rintro (h|h|h)<;>omega⟩
  refine ρ ?_;refine sto (cq.at (i:=1) rfl) (cq.frozen 1) ?_;obtain ⟨v7,c8⟩:∃ v7,v7=v6.setCell ((⟨C,0,none⟩:Addr).add 1) (.slice CA (Jj (K.X.pend q.length q)).length cc):=⟨_,rfl⟩;rw [<-c8];have dn:GrN (λk=>k=C) v6 v7:=by rw [c8];exact GrN.set _ rfl
  have bb:Blk v7 C 131 [.slice ek (Jj (rkS K.X K.ds q q.length)).length ej,.slice CA (Jj (K.X.pend q.length q)).length cc,.bool false,.int .i64 (st:Int)]:=by rw [c8];exact cq.set 1 _
  refine ρ ?_;refine ld (bb.at (i:=1) rfl) ?_;refine ρ ?_;refine sto (bb.at (i:=2) rfl) (bb.frozen 2) ?_;have d8:=o.ip.wi_len ne hqf ag;have fe:decide (0<((Jj (K.X.pend q.length q)).length:Int))=decide (0<(wiL K.L q).length):=by
   rw [d8];show decide _=decide (0<K.X.pend q.length q);rcases Nat.eq_zero_or_pos (K.X.pend q.length q) with h0|h0
   .rw [h0,limbs_0];rfl
   .rw [decide_eq_true h0,decide_eq_true (by have:=limbs_pos' (show K.X.pend q.length q≠0 by omega);omega)]
  obtain ⟨v8,c7⟩:∃ v8,v8=v7.setCell ((⟨C,0,none⟩:Addr).add 2) (.bool (decide (0<(wiL K.L q).length))):=⟨_,rfl⟩;have d9:v7.setCell ((⟨C,0,none⟩:Addr).add 2) (.bool (decide (0<((Jj (K.X.pend q.length q)).length:Int))))=v8:=by rw [fe];exact c7.symm
  refine Eq.mpr (congrArg _ d9) ?_;have fd:GrN (λk=>k=C) v7 v8:=by rw [c7];exact GrN.set _ rfl
  have fx:Blk v8 C 131 [.slice ek (Jj (rkS K.X K.ds q q.length)).length ej,.slice CA (Jj (K.X.pend q.length q)).length cc,.bool (decide (0<(wiL K.L q).length)),.int .i64 (st:Int)]:=by rw [c7];exact bb.set 2 _
  have aq:=dn.trans fd;have fl:=fp.off aq cy o;have fu:=Jv fw aq cz;refine ρ ?_;refine ldW fx ?_;refine ρ ?_;refine stW fu ?_;intro v9 ft bo c3;have c4:=c3 w (c6 ▸ o.ext fl.gr) om;have dm:GrN (λk=>k=b4) v8 v9:=GrN.by bo λk hk=>by injection hk with hk;exact hk.symm
  have ap:GrN (λk=>k=K.mb∨k=C∨k=b4) v6 v9:=(aq.mono λk _ h=>.inr (.inl h)).trans (dm.mono λk _ h=>.inr (.inr h));refine ρ ?_;refine Jjl ft ⟨_,_,st,rfl,?_,?_,Nat.le_trans f6 (Jpc hqf),c4⟩
  .rw [o.ip.rk_end ne hqf ag];exact (dw.gr ap).1
  .rw [d8];exact (fh.gr ap).1
end
open Go.RowKit Pl Go.Wk
variable {B0 pc:Nat}
section
variable {w:World} {x:Value} {f:Nat} {ds:List Bool} {kf:Nat->Nat} {pf:Nat->Int} {BB:Nat->List BkT} {tot:Nat} {L:List Row}
theorem Jrr(tb:TB B0 w)(h:IxA w x f ds kf pf BB tot L){PA:Option Addr}{q:Row}(hq:RdR w PA q)(hqc:q.length<=pc):
  Ret Tryz.prog 31 [x,.slice PA q.length pc] w λu w'=>Ext w w'/\(f<q.length->u=.tuple #[.slice none 0 0,.slice none 0 0,.int .i64 0,.int .i64 6]) /\
   (q.length<=f->∃ (lv hv:Value) (st:Nat),u=.tuple #[lv,hv,.int .i64 (st:Int),.int .i64 0]/\NatV w' lv (Ju ds L q)/\NatV w' hv (Ju ds L q+(wiL L q).length)/\st<=Qw f λv=>hmB (BB v)):=by
 have ix:=h.ix;have Z:=h.ip;obtain ⟨DA,dc,BA,cb,KA,ck,au,cp,tv,am,ak,rfl,aq,ar,hD,hB,hK,hP,ac,an⟩:=id ix.ex;obtain ⟨TA,tc,rfl,_⟩:=id ac;refine Jz Tryz.func31 Tryz.ntmps31 rfl kr rfl ?_;refine ρ ?_;refine bx ?_;intro w1 b U hb a3;refine ρ ?_;refine ldW a3 ?_;refine ρ ?_;refine cl (Jyk (ix.ext U)) ?_;rintro u w2 ⟨rfl,J⟩;refine ρ ?_;refine ci (λh=>?_) (λh=>?_)
 .have ao:f<q.length:=by have:=oT h;omega
  refine ρ ?_;exact Jxp ⟨U.trans J,λ_=>rfl,λh=>om⟩
 have ae:q.length<=f:=by have:=oF h;omega
 clear h;refine ρ ?_;refine ldW (a3.ext J) ?_;refine ρ ?_;refine cl (Jyj (ix.ext (U.trans J)) Z.nbT) ?_;rintro u w3 ⟨ab,_,a6⟩;have o:=(U.trans J).trans a6;obtain ⟨UA,uc,rfl,_⟩:=id ab;refine ρ ?_;refine ci (λh=>?_) (λh=>?_)
 .have h0:tot=0:=by
   have:=Xf h;rcases Nat.eq_zero_or_pos tot with h'|h'
   .exact h'
   .have:=limbs_pos' (show tot≠0 by omega);omega
  have hL:L=[]:=List.eq_nil_of_length_eq_zero (by rw [<-Z.len];exact h0);refine ρ ?_;refine Jxp ⟨o,λh=>om,λ_=>⟨_,_,0,rfl,?_,?_,Nat.zero_le _⟩⟩
  .rw [hL];exact NatV.nil _
  .rw [hL];exact NatV.nil _
 have ne:tot≠0:=λe=>by
  have:=Xb h;rw [e,limbs_0]at this;exact this rfl
 clear h;refine ρ ?_;refine ldW ((a3.ext J).ext a6) ?_;refine ρ ?_;refine cl (Qxb (tb.ext o) (ix.ext o) Z ne (Rd.ext hq o) hqc ae) ?_;rintro u w4 ⟨bv,cv,st,rfl,a2,a7,ad,aa⟩;obtain ⟨XA,xc,rfl,_⟩:=id a2;obtain ⟨YA,yc,rfl,_⟩:=id a7;refine ρ ?_;refine alc Jwl ?_;intro w5 b8 a9 ah ai;refine ρ ?_;refine stW ai ?_;intro w6 aj ap a8;have a5:Ext w4 w6:=a8 w4 a9 ah;have a4:Ext w6 w6.drew:=(Ext.refl w6).drew;have C:=a5.trans a4;have G:=aj.ext a4;have n1:(Jj (Ju ds L q)).length<=1000:=(Z.nbT.le (by rw [Z.len];exact Jhl ds L q)).len;have n2:(Jj (wiL L q).length).length<=1000:=(Z.nbT.le (by rw [Z.len];exact List.length_filter_le _ _)).len;refine ρ ?_;refine drN (λ_=>False) 15 [(0,0),(0,1),(0,3),(0,4),(0,5),(0,6),(0,8),(0,9),(1,2),(1,7),(0,10),(0,11),(0,12),(0,13)] kr ?_;refine ρn ?_;refine nld (λw' hg=>(G.ext hg.toExt).at (i:=0) rfl) ?_;refine ρn ?_;refine nld (λw' hg=>(G.ext hg.toExt).at (i:=0) rfl) ?_
 refine ρn ?_;refine nld (λw' hg=>(G.ext hg.toExt).at (i:=1) rfl) ?_;refine ρn ?_;refine nld (λw' hg=>(G.ext hg.toExt).at (i:=3) rfl) ?_;refine ρn ?_;refine nop ?_;refine cl (Jvx (a2.ext C) n1) ?_;rintro lv w7 ⟨af,_,O⟩;refine ρ ?_;refine Jg (GrN.ext O) ?_;refine ρn ?_;refine nop ?_;refine cl (Jtk ((a2.ext C).ext O) ((a7.ext C).ext O) n1 n2) ?_;rintro hv w8 ⟨ag,a1⟩;refine ρ ?_;refine Jg (GrN.ext a1) ?_;refine ρn ?_;refine ρ ?_;exact Jxp ⟨((o.trans aa).trans C).trans (O.trans a1),λh=>om,λ_=>⟨lv,hv,st,rfl,af.ext a1,ag,ad⟩⟩
end
open Go.RowKit Pl Go.Wk
variable {B0 f pc:Nat}
theorem Jql{w:World}{x:Value}{ds:List Bool}{kf:Nat->Nat}{pf:Nat->Int}{BB:Nat->List BkT}{tot:Nat}{L:List Row}(tb:TB B0 w)(h:IxA w x f ds kf pf BB tot L){PA:Option Addr}{q:Row}(hq:RdR w PA q)(hqc:q.length<=pc):
  Ret Tryz.prog 39 [x,.slice PA q.length pc] w λu w'=>Ext w w'/\(q.length≠f->u=.tuple #[.slice none 0 0,.bool false,.int .i64 0,.int .i64 6]) /\
   (q.length=f->∃ (kv:Value) (st:Nat),u=.tuple #[kv,.bool (decide (0<(wiL L q).length)),.int .i64 (st:Int),.int .i64 0]/\NatV w' kv (Ju ds L q)/\st<=Qw f λv=>hmB (BB v)):=by
 have ix:=h.ix;have ip:=h.ip;obtain ⟨DA,dc,BA,cb,KA,ck,am,cp,tv,ag,af,rfl,aj,ak,hD,hB,hK,hP,a8,ah⟩:=id ix.ex;obtain ⟨TA,tc,rfl,_⟩:=id a8;refine Jz Tryz.func39 Tryz.ntmps39 rfl kr rfl ?_;refine ρ ?_;refine bx ?_;intro w1 b J hb Z;refine ρ ?_;refine ldW Z ?_;refine ρ ?_;refine cl (Jyk (ix.ext J)) ?_;rintro u w2 ⟨rfl,C⟩;refine ρ ?_;refine ci (λh=>?_) (λh=>?_)
 .have aa:q.length≠f:=λe=>by rw [e]at h;simp at h
  refine ρ ?_;exact Jxp ⟨J.trans C,λ_=>rfl,λh=>absurd h aa⟩
 have a2:q.length=f:=by
  have:¬ ((q.length:Int) != (f:Int))=true:=by rw [h];decide
  simp at this;omega
 clear h;refine ρ ?_;refine ldW (Z.ext C) ?_;refine ρ ?_;refine cl (Jyj (ix.ext (J.trans C)) ip.nbT) ?_;rintro u w3 ⟨a7,_,a1⟩;have o:=(J.trans C).trans a1;obtain ⟨UA,uc,rfl,_⟩:=id a7;refine ρ ?_;refine ci (λh=>?_) (λh=>?_)
 .have h0:tot=0:=by
   have:=Xf h;rcases Nat.eq_zero_or_pos tot with h'|h'
   .exact h'
   .have:=limbs_pos' (show tot≠0 by omega);omega
  have hL:L=[]:=List.eq_nil_of_length_eq_zero (by rw [<-ip.len];exact h0);refine ρ ?_;refine Jxp ⟨o,λh=>absurd a2 h,λ_=>⟨.slice none 0 0,0,by subst hL;rfl,?_,Nat.zero_le _⟩⟩;rw [hL];exact NatV.nil _
 have ne:tot≠0:=λe=>by
  have:=Xb h;rw [e,limbs_0]at this;exact this rfl
 clear h;refine ρ ?_;refine ldW ((Z.ext C).ext a1) ?_;refine ρ ?_;refine cl (Qxb (tb.ext o) (ix.ext o) ip ne (Rd.ext hq o) hqc om) ?_;rintro u w4 ⟨bv,cv,st,rfl,a3,ab,a9,a6⟩;obtain ⟨XA,xc,rfl,_⟩:=id a3;obtain ⟨YA,yc,rfl,_⟩:=id ab;refine ρ ?_;refine alc Jwl ?_;intro w5 b8 a5 ac ad;refine ρ ?_;refine stW ad ?_;intro w6 ae ai a4;have O:Ext w4 w6:=a4 w4 a5 ac;have U:Ext w6 w6.drew:=(Ext.refl w6).drew;have G:=ae.ext U;refine ρ ?_;refine drN (λ_=>False) 11 [(0,0),(0,1),(0,2),(0,3),(0,4),(0,5),(0,6),(0,7),(0,8),(0,9)] kr ?_;refine ρn ?_;refine nld (λw' hg=>(G.ext hg.toExt).at (i:=0) rfl) ?_;refine ρn ?_;refine nld (λw' hg=>(G.ext hg.toExt).at (i:=2) rfl) ?_;refine ρn ?_;refine nld (λw' hg=>(G.ext hg.toExt).at (i:=3) rfl) ?_;refine ρn ?_;refine ρ ?_;exact Jxp ⟨((o.trans a6).trans O).trans U,λh=>absurd a2 h,λ_=>⟨_,st,rfl,(a3.ext O).ext U,a9⟩⟩
open Go.RowKit Pl Go.Wk
variable {B0 k n pc:Nat}{PA:Option Addr}{q:Row}
def RkA(f:Nat)(L:List Row)(k:Nat)(u:Value)(w:World): Prop:=match L[k]? with
 | some r=>∃ A c,u=.tuple #[.slice A r.length c,.bool true,.int .i64 0]/\RdR w A r/\r.length<=c/\r.length=f
 | none=>u=.tuple #[.slice none 0 0,.bool false,.int .i64 0]
section
variable {w:World} {x:Value} {f:Nat} {ds:List Bool} {kf:Nat->Nat} {pf:Nat->Int} {BB:Nat->List BkT} {tot:Nat} {L:List Row}
theorem Jrs(h:IxA w x f ds kf pf BB tot L){kv:Value}(hk:NatV w kv k):
  Ret Tryz.prog 71 [x,kv] w λu w'=>Ext w w'/\RkA f L k u w':=by
 obtain ⟨DA,dc,BA,cb,KA,ck,a4,cp,tv,Z,U,rfl,a2,a3,hD,hB,hK,hP,J,a1⟩:=id h.ix.ex;obtain ⟨TA,tc,rfl,_⟩:=id J;obtain ⟨UA,uc,rfl,_⟩:=id hk;refine Jz Tryz.func71 Tryz.ntmps71 rfl kr rfl ?_;refine ρ ?_;refine bx ?_;intro w1 b o hb O;refine ρ ?_;refine ldW O ?_;refine ρ ?_;refine cl (Qwd (h.ext o) (hk.ext o)) ?_;rintro u w2 ⟨C,G⟩;unfold AtR at G;unfold RkA;cases hr:L[k]? with
 | none=>
  rw [hr]at G;subst G;refine ρ ?_;exact Xr ⟨o.trans C,rfl⟩
 | some r=>
  rw [hr]at G;obtain ⟨A,c,st,rfl,h3,h4,h5,_⟩:=G;refine ρ ?_;exact Xr ⟨o.trans C,A,c,rfl,h3,h4,h5⟩
theorem lim1(h:IxP f ds kf pf BB tot L)(q:Row): (Jj (Ju ds L q)).length<=1000:=(h.nbT.le (by rw [h.len];exact Jhl ds L q)).len
theorem limbs_1l': (Jj 1).length<=1000:=by rw [Jkh (by decide) (by decide)];decide
theorem Qfd(tb:TB B0 w)(h:IxA w x f ds kf pf BB tot L)(hq:RdR w PA q)(hqc:q.length<=pc):
  Ret Tryz.prog 36 [x,.slice PA q.length pc] w λu w'=>Ext w w'/\(q.length≠f->u=.tuple #[.slice none 0 0,.bool false,.int .i64 6])/\(q.length=f->RkA f L (Ju ds L q+if 0<(wiL L q).length then 1 else 0) u w'):=by
 obtain ⟨DA,dc,BA,cb,KA,ck,ac,cp,tv,a8,a7,rfl,aa,ab,hD,hB,hK,hP,a4,a9⟩:=id h.ix.ex;obtain ⟨TA,tc,rfl,_⟩:=id a4;refine Jz Tryz.func36 Tryz.ntmps36 rfl kr rfl ?_;refine ρ ?_;refine bx ?_;intro w1 b C hb a2;refine ρ ?_;refine ldW a2 ?_;refine ρ ?_;refine cl (Jql (tb.ext C) (h.ext C) (Rd.ext hq C) hqc) ?_;rintro u w2 ⟨a1,a5,a6⟩;by_cases hqf:q.length=f
 .obtain ⟨kv,st,rfl,hk,_⟩:=a6 hqf;obtain ⟨UA,uc,rfl,_⟩:=id hk;refine ρ ?_;refine Xl (fun (y:Value)=>[(2,.pointer (some ⟨b,0,none⟩)),(7,y)]) (λy w'=>Ext w2 w'/\NatV w' y (Ju ds L q+if 0<(wiL L q).length then 1 else 0)) ?_ ?_
  .refine ci (λhc=>?_) (λhc=>?_)
   .rw [if_pos (oT hc)];refine ρ ?_;refine cl (Iu 1 (by decide) _) ?_;rintro o w3 ⟨ho,_,J⟩;refine ρ ?_;refine cl (Jtk (hk.ext J) ho (lim1 h.ip q) limbs_1l') ?_;rintro y w4 ⟨hy,O⟩;refine ρ ?_;exact Jh y sB ⟨J.trans O,hy⟩
   .rw [if_neg (oF hc)];refine ρ ?_;exact Jh _ sB ⟨Ext.refl _,hk⟩
  rintro y w3 ⟨J,hy⟩;have G:=a1.trans J;refine ρ ?_;refine ldW (a2.ext G) ?_;refine ρ ?_;refine cl (Jrs (h.ext (C.trans G)) hy) ?_;rintro u w4 ⟨O,U⟩;have a3:=U;unfold RkA at U;have Z:=(C.trans G).trans O;cases hr:L[Ju ds L q+if 0<(wiL L q).length then 1 else 0]? with
  | none=>
   rw [hr]at U;subst U;refine ρ ?_;exact Xr ⟨Z,λe=>absurd hqf e,λ_=>a3⟩
  | some r=>
   rw [hr]at U;obtain ⟨A,c,rfl,_⟩:=U;refine ρ ?_;exact Xr ⟨Z,λe=>absurd hqf e,λ_=>a3⟩
 .have e:=a5 hqf;subst e;refine ρ ?_;exact Xr ⟨C.trans a1,λ_=>rfl,λe=>absurd e hqf⟩
theorem Qfc(tb:TB B0 w)(h:IxA w x f ds kf pf BB tot L)(hq:RdR w PA q)(hqc:q.length<=pc):
  Ret Tryz.prog 37 [x,.slice PA q.length pc] w λu w'=>Ext w w'/\(q.length≠f->u=.tuple #[.slice none 0 0,.bool false,.int .i64 6])/\(q.length=f->if Ju ds L q=0 then u=.tuple #[.slice none 0 0,.bool false,.int .i64 0] else RkA f L (Ju ds L q-1) u w'):=by
 obtain ⟨DA,dc,BA,cb,KA,ck,ad,cp,tv,a9,a8,rfl,ab,ac,hD,hB,hK,hP,a5,aa⟩:=id h.ix.ex;obtain ⟨TA,tc,rfl,_⟩:=id a5;refine Jz Tryz.func37 Tryz.ntmps37 rfl kr rfl ?_;refine ρ ?_;refine bx ?_;intro w1 b C hb a1;refine ρ ?_;refine ldW a1 ?_;refine ρ ?_;refine cl (Jql (tb.ext C) (h.ext C) (Rd.ext hq C) hqc) ?_;rintro u w2 ⟨Z,a6,a7⟩;by_cases hqf:q.length=f
 .obtain ⟨kv,st,rfl,hk,_⟩:=a7 hqf;obtain ⟨UA,uc,rfl,_⟩:=id hk;refine ρ ?_;refine cl (Iu 1 (by decide) _) ?_;rintro o w3 ⟨ho,_,U⟩;refine ρ ?_;refine cl (Qlb (hk.ext U) ho (lim1 h.ip q)) ?_;rintro u w4 ⟨⟨y,rfl,hy⟩,a4⟩;obtain ⟨YA,yc,rfl,_⟩:=id hy;have G:=(Z.trans U).trans a4;by_cases h0:Ju ds L q=0
  .rw [if_pos (show Ju ds L q<1 by omega)];refine ρ ?_;exact Xr ⟨C.trans G,λe=>absurd hqf e,λ_=>by rw [if_pos h0]⟩
  .rw [if_neg (show ¬ Ju ds L q<1 by omega)];refine ρ ?_;refine ldW (a1.ext G) ?_;refine ρ ?_;refine cl (Jrs (h.ext (C.trans G)) hy) ?_;rintro u w5 ⟨a3,J⟩;have a2:=J;unfold RkA at J;have O:=(C.trans G).trans a3;cases hr:L[Ju ds L q-1]? with
   | none=>
    rw [hr]at J;subst J;refine ρ ?_;exact Xr ⟨O,λe=>absurd hqf e,λ_=>by rw [if_neg h0];exact a2⟩
   | some r=>
    rw [hr]at J;obtain ⟨A,c,rfl,_⟩:=J;refine ρ ?_;exact Xr ⟨O,λe=>absurd hqf e,λ_=>by rw [if_neg h0];exact a2⟩
 .have e:=a6 hqf;subst e;refine ρ ?_;exact Xr ⟨C.trans Z,λ_=>rfl,λe=>absurd e hqf⟩
end
theorem Jjq{w:World}{v:Value}(hv:NatV w v n)(hk:k<9223372036854775808):
  Ret Tryz.prog 40 [v,.int .i64 (k:Int)] w λu w'=>u=.bool (decide (n=k))/\Ext w w':=by
 obtain ⟨UA,Z,rfl,_⟩:=id hv;refine Jz Tryz.func40 Tryz.ntmps40 rfl kr rfl ?_;refine ρ ?_;rw [Ug (z:=(k:Int)) om];refine cl (Iu k om w) ?_;rintro o U ⟨J,_,C⟩;refine ρ ?_;refine cl (Un (hv.ext C) J) ?_;rintro _ O ⟨rfl,G⟩;refine ρ ?_;refine Jq ⟨?_,C.trans G⟩;congr 1
 rcases Nat.lt_trichotomy n k with h|h|h
 .rw [decide_eq_false om];unfold Zg;rw [if_pos h];rfl
 .rw [decide_eq_true h,h];unfold Zg;rw [if_neg om,if_neg om];rfl
 .rw [decide_eq_false om];unfold Zg;rw [if_neg om,if_pos h];rfl
open Go.RowKit Pl Go.Wk
def tt3: TT:=(142,{ desc:=.slice 2,esz:=1 })::tt2
theorem Qyz: TOk Tryz.prog tt3:=⟨⟨kr,kr,kr⟩,Jnn⟩
instance (priority:=10000):Tab Tryz.prog tt3:=⟨Qyz,mixed⟩
theorem bs0V(w:World): (Instr.buildSlice 37 0 #[]).run Tryz.prog w=.ok (.slice (some ⟨w.heap.size,0,none⟩) 0 0) (w.alloc (.cells [].toArray 47)):=kr
theorem Jgn{w:World}{A:Option Addr}{c:Nat}{zs:List Int}(hR:Rd w 1 A zs.length (zs.map λz=>Value.int .i64 z))(hl:zs.length<=1000):
  Ret Tryz.prog 45 [.slice A zs.length c] w λu w'=>RowV w' u (zs.map nV)/\Ext w w'/\∀ ad m c,u=.slice (some ad) m c->w.heap.size<=ad.block:=by
 refine Jz Tryz.func45 Tryz.ntmps45 rfl kr rfl ?_;refine ρ ?_;refine bsl bs0V ?_;intro w1 b1 a2 a4 a6;refine ρ ?_;refine Qq (fun (i:Nat) (v:Value)=>[(3,v),(7,.slice A zs.length c),(8,.int .i64 (zs.length:Int)),(9,.int .i64 (i:Int))])
  (λi v w'=>i<=zs.length/\Ext w w'/\((i=0/\∃ b,v=.slice (some b) 0 0/\w.heap.size<=b.block)∨(0<i/\w'.ownsRow w.heap.size 47 3 v i (Jl ((zs.take i).map nV))))) (λi _=>zs.length-i) 0 (.slice (some ⟨b1,0,none⟩) 0 0) sB ⟨Nat.zero_le _,a2,.inl ⟨rfl,_,rfl,a4⟩⟩ ?_
 rintro i v w2 ⟨hi,o,hv⟩;refine ρ ?_;refine ci (λZ=>?_) (λZ=>?_)
 .have li:i<zs.length:=by have:=oT Z;omega
  clear Z;have a1:=hR.ext o;have hz:(zs.map λz=>Value.int .i64 z)[i]?=some (.int .i64 (zs.getD i 0)):=by simp [List.getD,li]
  refine ρ ?_;refine ix i a1 li ?_;refine ρ ?_;refine ld (a1.cell hz) ?_;refine ρ ?_;refine bld (Xjj _ _) ?_;refine ρ ?_;refine bsl (bs1V _) ?_;intro w3 b3 C a8 U;have ht:(zs.take (i+1)).map nV=(zs.take i).map nV++[nV (zs.getD i 0)]:=by rw [Ql 0 li,List.map_append];rfl
  refine ρ ?_;rcases hv with ⟨rfl,b,rfl,_⟩|⟨h0,ho⟩
  .refine apz EV (base:=w.heap.size) (U.rd (n:=1) rfl) (V.one _) (by decide) (by unfold maxLen;omega) om (o.trans C).size ?_;intro v' w4 J O;refine ρ ?_;refine Js 1 v' sB ⟨om,(o.trans C).trans J,.inr ⟨by decide,?_⟩⟩ om;rw [show (1:Nat)=0+1 from rfl,ht];exact O
  .refine apo (a:=w) (o.trans C) EV (Jw ho C) (U.rd (n:=1) rfl) (V.one _) (by unfold maxLen;omega) om ?_;intro v' w4 O J _ _;refine ρ ?_;refine Js (i+1) v' sO ⟨om,J,.inr ⟨om,?_⟩⟩ om;rw [ht,rowC_app'];exact O
 .have G:i=zs.length:=by have:=oF Z;omega
  clear Z;refine ρ ?_;refine Jq ⟨?_,o,λad m c e=>?_⟩
  .rcases hv with ⟨h0,b,rfl,_⟩|⟨h0,ho⟩
   .have:zs=[]:=List.eq_nil_of_length_eq_zero om;rw [this];exact ⟨some b,0,rfl,Nat.le_refl _,Nat.zero_le _,Rd.nil⟩
   .obtain ⟨B,cb,rfl,a7,_⟩:=Jy ho;rw [G,List.take_length]at ho;have a5:=Rd.own ho;refine ⟨B,cb,by rw [List.length_map,G],by rw [List.length_map];omega,by rw [List.length_map];omega,?_⟩;show Rd _ 3 B ((zs.map nV).length) _;rw [List.length_map,<-G];exact G ▸ a5
  .rcases hv with ⟨h0,b,rfl,a3⟩|⟨h0,ho⟩
   .injection e with e
    injection e with e
    rw [<-e];exact a3
   .obtain ⟨B,cb,rfl,_,hf⟩:=Jy ho;injection e with e
    subst e;exact (hf ad.block rfl).1
open Go.RowKit Pl Go.Wk
def Aw42: Prop:=∀ {B0:Nat} {w:World},TB B0 w->Ret Tryz.prog 35 [] w λu w'=>u=.bool true/\Ext w w'
theorem Qyc{L:List Row}{p:Row}{f:Nat}(hl:∀ y∈L,y.length=f)(hp:p.length=f): decide (0<(wiL L p).length)=decide (p∈L):=by
 refine decide_eq_decide.2 ⟨λh=>?_,λh=>?_⟩
 .obtain ⟨y,C⟩:=List.exists_mem_of_length_pos h;obtain ⟨u,G⟩:=List.mem_filter.1 C;have o:y.take p.length=p:=by simpa using G
  rw [hp,<-hl y u,List.take_length]at o;rw [<-o];exact u
 .refine List.length_pos_of_mem (a:=p) (List.mem_filter.2 ⟨h,?_⟩);simp
open Go.RowKit Pl Go.Wk
variable {x y:Int}{L m:List Row}{B0 b c f k:Nat}{u v:Value}{w w':World}
def exR: Cse:=Xx [false,false] (nR 1 1) (nR 1 3) (nR 2 2)
theorem exR_good: Qvc exR:=goodE rfl ⟨rfl,rfl⟩ ⟨rfl,rfl⟩ ⟨rfl,rfl⟩
def exL: List Row:=[nR 1 1,nR 1 3,nR 2 2]
theorem Qpp: exR.ans=exL:=by decide
theorem Qpn: ∀ i,i<exR.rss.length->∀ r∈exR.rss.getD i [],∀ u∈r,Vu u:=λi hi r C u o=>by
 have:i=0:=by simp [exR,Xx]at hi;exact hi
 subst this;simp only [exR,Xx,List.getD_cons_zero,List.mem_cons,List.not_mem_nil,or_false]at C;rcases C with rfl|rfl|rfl <;>
 .simp only [nR,List.mem_cons,List.not_mem_nil,or_false]at o;rcases o with rfl|rfl<;>exact Jtl (by decide)
theorem exR_a: Ju [false,false] exL (nR 1 2)=1/\decide (0<(wiL exL (nR 1 2)).length)=false:=by decide
theorem exR_b: Ju [false,false] exL (nR 2 2)=2/\decide (0<(wiL exL (nR 2 2)).length)=true:=by decide
theorem exR_c: Ju [false,false] exL (nR 9 9)=3/\decide (0<(wiL exL (nR 9 9)).length)=false:=by decide
theorem exR_p: Ju [false,false] exL [nV 1]=0/\Ju [false,false] exL [nV 1]+(wiL exL [nV 1]).length=2:=by decide
theorem exR_q: Ju [false,false] exL [nV 0]=0/\Ju [false,false] exL [nV 0]+(wiL exL [nV 0]).length=0:=by decide
theorem exR_n: Ju [false,false] exL (nR 1 2)+(if 0<(wiL exL (nR 1 2)).length then 1 else 0)=1:=by decide
theorem RkA.some{r:Row}(h:RkA f L k u w)(hr:L[k]?=some r): ∃ A c,u=.tuple #[.slice A r.length c,.bool true,.int .i64 0]/\RdR w A r/\r.length<=c:=by
 unfold RkA at h;rw [hr]at h;obtain ⟨A,c,G,C,o,_⟩:=h;exact ⟨A,c,G,C,o⟩
theorem Uw(a b:Int)(w:World): (Instr.buildSlice 142 2 #[(0,.int .i64 a),(1,.int .i64 b)]).run Tryz.prog w=.ok (.slice (some ⟨w.heap.size,0,none⟩) 2 2) (w.alloc (.cells [Value.int .i64 a,.int .i64 b].toArray 2)):=kr
theorem bs1J(a:Int)(w:World): (Instr.buildSlice 142 1 #[(0,.int .i64 a)]).run Tryz.prog w=.ok (.slice (some ⟨w.heap.size,0,none⟩) 1 1) (w.alloc (.cells [Value.int .i64 a].toArray 2)):=kr
theorem Ut(h:Blk w b 2 [.int .i64 x,.int .i64 y]): Ret Tryz.prog 45 [.slice (some ⟨b,0,none⟩) 2 2] w λu w'=>∃ A c,u=.slice A 2 c/\2<=c/\RdR w' A (nR x y)/\Ext w w':=by
 refine (Jgn (zs:=[x,y]) (h.rd rfl) (by show 2<=1000;decide)).mono ?_;rintro _ w' ⟨⟨A,c,rfl,C,_,G⟩,o,_⟩;exact ⟨A,c,rfl,C,G,o⟩
theorem Qjr(h:Blk w b 2 [.int .i64 x]): Ret Tryz.prog 45 [.slice (some ⟨b,0,none⟩) 1 1] w λu w'=>∃ A c,u=.slice A 1 c/\1<=c/\RdR w' A [nV x]/\Ext w w':=by
 refine (Jgn (zs:=[x]) (h.rd rfl) (by show 1<=1000;decide)).mono ?_;rintro _ w' ⟨⟨A,c,rfl,C,_,G⟩,o,_⟩;exact ⟨A,c,rfl,C,G,o⟩
theorem Xjn(n f:Int)(A B:Option Addr)(a a' b b':Nat)(w:World): (Instr.build 92 #[(0,.int .i64 n),(1,.int .i64 f),(2,.slice A a a'),(4,.slice B b b')]).run Tryz.prog w=.ok (.agg #[.int .i64 n,.int .i64 f,.slice A a a',.slice none 0 0,.slice B b b']) w:=kr
def SF.bl(l:List Bool): SF:=⟨λv w=>∃ A c,v=.slice A l.length c/\BoolsV w v l,λ⟨A,c,e,h⟩ hx=>⟨A,c,e,h.ext hx⟩⟩
def SF.is(l:List Int): SF:=⟨λv w=>∃ b,v=.slice (some ⟨b,0,none⟩) l.length l.length/\IntsV w v l,λ⟨b,e,h⟩ hx=>⟨b,e,h.ext hx⟩⟩
def SF.at(B:Option Addr)(mm d:Nat): SF:=⟨λv w=>∃ b,v=.agg #[.slice (some ⟨b,0,none⟩) 2 2,.int .i64 2,.slice B mm d]/\IntsV w (.slice (some ⟨b,0,none⟩) 2 2) [0,1],λ⟨b,e,h⟩ hx=>⟨b,e,h.ext hx⟩⟩
theorem GV.atx{ls:List Atm}(h:GV 3 AtG w v ls)(hx:Ext w w'): GV 3 AtG w' v ls:=GV.ext h hx λcs a ⟨t,e,h⟩=>⟨t,e,h.ext hx⟩
def SF.as(m:List Row): SF:=⟨λv w=>∃ b,v=.slice (some ⟨b,0,none⟩) 1 1/\GV 3 AtG w v [⟨[0,1],2,m⟩],λ⟨b,e,h⟩ hx=>⟨b,e,GV.atx h hx⟩⟩
def SF.inp(m:List Row): SF:=⟨λv w=>∃ A c b,v=.agg #[.int .i64 2,.int .i64 2,.slice A 2 c,.slice none 0 0,.slice (some ⟨b,0,none⟩) 1 1]/\BoolsV w (.slice A 2 c) [false,false]/\GV 3 AtG w (.slice (some ⟨b,0,none⟩) 1 1) [⟨[0,1],2,m⟩],λ⟨A,c,b,e,h,h2⟩ hx=>⟨A,c,b,e,h.ext hx,GV.atx h2 hx⟩⟩
def ExI(x:Value)(w:World): Prop:=∃ kf pf BB tot,IxA w x 2 [false,false] kf pf BB tot exL
def ExO(N:Nat->Prop)(x:Value)(w:World): Prop:=(∃ XA xd YA yd ZA zd UA ud TA tn tc,x=.agg #[.slice XA 2 xd,.slice YA 2 yd,.slice ZA 2 zd,.slice UA 2 ud,.slice TA tn tc])/\Off N w λu=>(∃ B0,TB B0 u)->ExI x u
abbrev ixZ: List Value:=[.slice none 0 0,.slice none 0 0,.slice none 0 0,.slice none 0 0,.slice none 0 0]
def SF.zi(s:Nat): SF:=⟨λv w=>∃ b,v=.pointer (some ⟨b,0,none⟩)/\s<=b/\Blk w b 31 ixZ,λ⟨b,e,h1,h2⟩ hx=>⟨b,e,h1,h2.ext hx⟩⟩
theorem Jgw{A:Option Addr}(hTB:TB B0 w)(hset:Zh [] [nR 1 1,nR 1 3,nR 2 2] m)(hm:m.length<=65536)(hsub:∀ x∈m,x∈[nR 1 1,nR 1 3,nR 2 2])(hb:BoolsV w (.slice A 2 c) [false,false])(hg:GV 3 AtG w (.slice (some ⟨b,0,none⟩) 1 1) [⟨[0,1],2,m⟩]):
  Ret Tryz.prog 47 [.agg #[.int .i64 2,.int .i64 2,.slice A 2 c,.slice none 0 0,.slice (some ⟨b,0,none⟩) 1 1]] w λu w'=>Ext w w'/\∃ x st,u=.tuple #[x,.int .i64 st,.int .i64 0]/\ExO (λk=>k<w.heap.size) x w':=by
 have hmk:∀ i,i<exR.vs.length->MkA ([(⟨[0,1],2,m⟩:Atm)].getD i a0) (exR.vs.getD i []) (exR.rss.getD i []):=λi hi=>by
  have:i=0:=by simp [exR,Xx]at hi;exact hi
  subst this;exact ⟨rfl,rfl,by decide,λr hr=>exR_good.2.1.ok 0 (by decide) r hr,hm,hsub,λ_=>hset⟩
 have o:CseOk exR [⟨[0,1],2,m⟩]:=⟨⟨exR_good.1.row,exR_good.1.cnt,.inl exR_good.1.n6,exR_good.1.v5,exR_good.1.r5⟩,rfl,rfl,hmk,exR_good.2.2 _ rfl hmk,Qpn⟩;obtain ⟨ts,C,a1⟩:=Xjc o (dA:=A) (dc:=c) (pA:=none) (pc:=0) hb ⟨none,0,rfl,Nat.le_refl _,Nat.zero_le _,Rd.nil⟩ hg;have Z:ts.length=exR.m:=by have:=o.al;rw [C,List.length_map]at this;exact this
 refine (Qjl hTB (o.bldI C) a1).mono ?_;rintro u w5 ⟨O,x,st,kf,pf,R,rfl,hE,G⟩;obtain ⟨XA,xd,YA,yd,ZA,zd,UA,ud,tv,a3,a2,rfl,_,_,_,_,_,_,U,_⟩:=id G.here.ex;obtain ⟨TA,tc,rfl,_⟩:=id U;refine ⟨O,_,_,rfl,⟨XA,xd,YA,yd,ZA,zd,UA,ud,TA,_,tc,rfl⟩,G.imp λW hV hT=>?_⟩;have J:=Qmn hT (o.bldI C) (Qdp C) hE hV o.ans.1 (λy=>by rw [Z];exact o.ans.2 y) (by have:=o.anl;omega);rw [Qpp]at J;exact ⟨_,_,_,_,J⟩
set_option linter.constructorNameAsVariable false in
theorem Jlg: Aw42:=by
 intro B0 w a3;refine Jz Tryz.func35 Tryz.ntmps35 rfl kr rfl ?_;refine ρ ?_;refine bsl (Uw 1 1) ?_;intro w1 b1 ff i9 fp;refine ρ ?_;refine cl (Ut fp) ?_;rintro _ w2 ⟨A2,c2,rfl,g4,gq,fe⟩;refine ρ ?_;refine bsl (Uw 1 3) ?_;intro w3 b3 bo i8 fo;refine ρ ?_;refine cl (Ut fo) ?_;rintro _ w4 ⟨A4,c4,rfl,g3,gn,fd⟩;refine ρ ?_;refine bsl (Uw 2 2) ?_;intro w5 b5 fc i7 fl;refine ρ ?_;refine cl (Ut fl) ?_;rintro _ w6 ⟨A6,c6,rfl,g2,gm,fb⟩;refine ρ ?_;refine bsl (bs3R _ _ _ _ _ _ _ _ _) ?_;intro w7 b7 c1 i6 fk;have cj:=fc.trans fb;have ck:=(bo.trans fd).trans cj;have d6:RowsV w7 (.slice (some ⟨b7,0,none⟩) 3 3) [nR 1 1,nR 1 3,nR 2 2]:=by
  refine Qlw [(.slice A2 2 c2,nR 1 1),(.slice A4 2 c4,nR 1 3),(.slice A6 2 c6,nR 2 2)] fk (λp hp=>?_) (by simp);simp only [List.mem_cons,List.not_mem_nil,or_false]at hp;rcases hp with rfl|rfl|rfl
  .exact ⟨A2,c2,rfl,g4,(by show 2<=1100000;decide),Rd.ext gq (ck.trans c1)⟩
  .exact ⟨A4,c4,rfl,g3,(by show 2<=1100000;decide),Rd.ext gn (cj.trans c1)⟩
  .exact ⟨A6,c6,rfl,g2,(by show 2<=1100000;decide),Rd.ext gm c1⟩
 refine ρ ?_;refine cl (Jdn (ar:=2) d6) ?_;rintro u w8 ⟨fa,rv,e,rfl,⟨z,B,mm,d,rfl⟩,fq,eo⟩;obtain rfl:e=0:=fq (by decide) (λr hr=>exR_good.2.1.ok 0 (by decide) r hr) (by simp);obtain ⟨_,_,ms,f0,d7,bp,a4⟩:=eo rfl;have a4:=a4 (.inl (by simp));refine ρ ?_;refine alc Ud ?_;intro w9 b9 f9 gd gs;refine ρ ?_;refine stb (cs':=[.int .i64 z,.slice B mm d]) gs ?_ (Vm (z:=z) (A:=B) (n:=mm) (c:=d));intro a2 f3 hm ef;have bn:Ext w8 a2:=ef w8 f9 gd;have bg:Ext w a2:=((((ff.trans fe).trans ck).trans c1).trans fa).trans bn;have c5:=f0.here.ext bn;obtain ⟨f8,dm,fi⟩:=id c5;injection dm with dm
 obtain ⟨rfl,rfl⟩:z=2/\f8=.slice B mm d:=by
  simpa [eq_comm] using dm
 refine ρ ?_;have b6:Ext a2 a2.drew:=(Ext.refl a2).drew;have dl:=f3.ext b6;refine drH (λi=>Nat.ble 12 i) ?_;refine Xo (fuel':=14) 16 [(0,2)] #[false,false,true,false,false,false,false,false,false,false,false,false,false,false,false] kr kr rfl ?_;refine ρd ?_;refine Qz (cs:=[.int .i64 2,.slice B mm d]) (λj u hu=>dl.at hu) ?_;refine ρd ?_;refine Qd ?_;refine Jkp 3 (lst 15 12) (fun (y:Value×Int×Nat)=>[(3,.pointer (some ⟨y.2.2,0,none⟩)),(51,y.1),(52,.int .i64 y.2.1),(53,.int .i64 0),(2,.int .i64 0)])
  (λy W=>Ext a2 W/\ExO (λk=>k=y.2.2) y.1 W/\a2.drew.heap.size<=y.2.2/\Blk W y.2.2 31 ixZ) ?_ ?_
 rotate_left
 .intro rest;have bs:=a3.ext (bg.trans b6);refine Qqb 16 11 8 _ #[true,true,true,true,true,true,false,false,false,false,false,true,false,false,false] [0,1,3,4,5,11] [44,45,47,48,49,3] [SF.bl [false,false],SF.is [0,1],SF.at B mm d,SF.as ms,SF.inp ms,SF.zi a2.drew.heap.size] kr (by rfl) ?_ ?_ ?_
  .refine gsc (λvs v1 O hd=>?_) ?_
   .simp only [slM];refine mkn EB 2 (by decide) (by decide) ?_;intro w3 A bo ho hf;have e:(madeCells (Value.bool false).cells (2*1)).toList=[Value.bool false,.bool false]:=by rw [Nat.mul_one];exact Yw _ _
    rw [e]at ho;exact Jp (Zv bo ⟨A,2,rfl,A,2,rfl,Nat.le_refl _,by decide,Rd.own ho⟩)
   refine gsc (λvs v1 O hd=>?_) ?_
   .simp only [slM];refine bsl (bs2I _ _) ?_;intro w3 b bo hb hk;exact Jp (Zv bo ⟨b,rfl,some ⟨b,0,none⟩,2,rfl,Nat.le_refl _,by decide,hk.rd rfl⟩)
   refine gsc (λvs v1 O hd=>?_) ?_
   .obtain ⟨b,e,h⟩:=hd 1;simp only [slM,e]at h ⊢;refine bld (Jhw _ _ _ _ _ _ _ _) ?_;refine ρ ?_;exact Zv (Ext.refl _) ⟨b,rfl,h⟩
   refine gsc (λvs v1 O hd=>?_) ?_
   .obtain ⟨b,e,h⟩:=hd 2;simp only [slM,e]at h ⊢;refine bsl (Jbj _ _ _ _ _ _ _ _ _ _ rfl rfl rfl) ?_;intro v2 b2 G a5 Z;refine ρ ?_;refine Zv G ⟨b2,rfl,[([.slice (some ⟨b,0,none⟩) 2 2,.int .i64 2,.slice B mm d],⟨[0,1],2,ms⟩)],some ⟨b2,0,none⟩,1,rfl,rfl,Nat.le_refl _,(by show 1<=1100000;decide),Z.rd rfl,λp hp=>?_⟩;rw [List.mem_singleton.1 hp];exact ⟨rfl,(_,_,_),rfl,h.ext G,rfl,((fi.ext b6).ext O).ext G⟩
   refine gsc (λvs v1 O hd=>?_) ?_
   .obtain ⟨A,c,e,h⟩:=hd 0;obtain ⟨b,e2,h2⟩:=hd 3;simp only [slM,e,e2,List.length_cons,List.length_nil]at h h2 ⊢;refine bld (Xjn _ _ _ _ _ _ _ _ _) ?_;refine ρ ?_;exact Zv (Ext.refl _) ⟨A,c,b,rfl,h,h2⟩
   refine gsc (λvs v1 O hd=>?_) gse
   .simp only [slM];refine alc Iq ?_;intro v2 b2 G a5 Z;exact Jp (Zv G ⟨b2,rfl,Nat.le_trans O.size a5,Z⟩)
  .intro vs v1 O hd;obtain ⟨A,c,b,e4,h,h2⟩:=hd 4;obtain ⟨b2,e5,a5,Z⟩:=hd 5;simp only [slM,e4,e5];refine Xo (fuel':=7) 16 [(1,6)] ((lst 15 7).setIfInBounds 11 true) kr kr rfl ?_;refine dcl (Jgw (bs.ext O) a4 d7 bp h h2) ?_;rintro u v2 ⟨G,x,st,rfl,hX,hO⟩;refine ⟨G,?_⟩;refine Yj (Qd ?_);refine Xo (fuel':=5) 16 [(0,7),(0,8)] ((lst 15 9).setIfInBounds 11 true) kr kr rfl ?_;refine ρd ?_;refine Qd ?_;refine Zu (fuel':=4) 9 kr kr rfl rfl ?_;refine ρp ?_;refine ρd ?_;refine Qd ?_;refine Zu (fuel':=3) 10 kr kr rfl rfl ?_;refine ρp ?_;refine ρd ?_;refine Qd ?_;refine hlist (listed':=lst 15 12) kr ?_;have fj:=Z.lt;exact rest (x,st,b2) _ _ ⟨(b6.trans O).trans G,⟨hX,hO.mono λk hk (h:k=b2)=>om⟩,a5,Z.ext G⟩ sB
  .intro _ vs v1 O hd;obtain ⟨A,c,b,e4,h,h2⟩:=hd 4;simp only [slM,e4];refine htwo 6 11 kr rfl rfl rfl ?_ ?_
   .refine ρ ?_;refine cl (Jgw (bs.ext O) a4 d7 bp h h2) ?_;rintro u v2 ⟨G,x,st,rfl,hX,hO⟩;refine Jp (Kf G ?_);refine Xo (fuel':=6) 16 [(0,7),(0,8)] (lst 15 9) kr kr rfl ?_;refine ρd ?_;refine Qd ?_;refine Zu (fuel':=5) 9 kr kr rfl rfl ?_;refine ρp ?_;refine ρd ?_;refine Qd ?_;refine Zu (fuel':=4) 10 kr kr rfl rfl ?_;refine ρp ?_;refine ρd ?_;refine Qd ?_;refine Xo (fuel':=3) 16 [(1,11)] (lst 15 12) kr kr rfl ?_;refine dalc' (cs:=ixZ) Iq ?_;intro v3 b2 b4 a5 Z;refine Yj (Qd ?_);exact rest (x,st,b2) _ _ ⟨((b6.trans O).trans G).trans b4,⟨hX,(hO.mono λk hk (h:k=b2)=>om).ext b4⟩,Nat.le_trans (O.trans G).size a5,Z⟩ sB
   .refine ρ ?_;refine alc Iq ?_;intro v2 b2 G a5 Z;refine Jp (Kf G ?_);refine Xo (fuel':=7) 16 [(1,6)] ((lst 15 7).setIfInBounds 11 true) kr kr rfl ?_;refine dcl (Jgw ((bs.ext O).ext G) a4 d7 bp (h.ext G) (GV.atx h2 G)) ?_;rintro u v3 ⟨b4,x,st,rfl,hX,hO⟩;refine ⟨b4,?_⟩;refine Yj (Qd ?_);refine Xo (fuel':=5) 16 [(0,7),(0,8)] ((lst 15 9).setIfInBounds 11 true) kr kr rfl ?_;refine ρd ?_;refine Qd ?_;refine Zu (fuel':=4) 9 kr kr rfl rfl ?_;refine ρp ?_;refine ρd ?_;refine Qd ?_;refine Zu (fuel':=3) 10 kr kr rfl rfl ?_;refine ρp ?_;refine ρd ?_;refine Qd ?_;refine hlist (listed':=lst 15 12) kr ?_;have fj:=Z.lt;exact rest (x,st,b2) _ _ ⟨((b6.trans O).trans G).trans b4,⟨hX,hO.mono λk hk (h:k=b2)=>om⟩,Nat.le_trans O.size a5,Z.ext b4⟩ sB
 rintro ⟨x,st,h7⟩ f5 ⟨ee,⟨hX,hO⟩,cy,cz⟩;simp only at hX hO cy cz;obtain ⟨XA,xd,YA,yd,ZA,zd,UA,ud,TA,tn,tc,rfl⟩:=hX;refine Xo (fuel':=0) 16 [(2,12),(2,13),(2,14)] (lst 15 15) kr kr rfl ?_;refine Jt ?_;refine stW cz ?_;intro C a1 et ed;have dk:GrN (λk=>k=h7) f5 C:=GrN.by et λk hk=>by injection hk with hk;exact hk.symm
 have c3:Ext a2 C:=ed a2 ee cy;have J:Ext w C:=bg.trans c3;obtain ⟨kf,pf,BB,tot,ay⟩:=hO C dk ⟨B0,a3.ext J⟩;clear hO;refine Jp (Qc ?_);refine Jt ?_;refine ρ ?_;refine Qc ?_;refine Jt ?_;refine ρ ?_;refine Qc ?_;refine Yj (Qd ?_);refine Jjh kr ?_;obtain ⟨⟨f4,h5⟩,⟨h4,h3⟩,⟨gz,gy⟩,⟨gx,gw⟩,gu,gt⟩:=And.intro exR_a (And.intro exR_b (And.intro exR_c (And.intro exR_p exR_q)));refine ρ ?_;have bh:Ext C C.drew:=(Ext.refl _).drew;refine drN (λ_=>False) 13 [(0,0),(1,1),(1,2),(1,3),(0,4),(0,5),(0,6),(0,7),(0,8),(0,9),(0,10),(0,11),(0,12)] kr ?_;refine ρn ?_;refine Xc (cs:=[.slice XA 2 xd,.slice YA 2 yd,.slice ZA 2 zd,.slice UA 2 ud,.slice TA tn tc]) (λw' hg j u hu=>((a1.ext bh).ext hg.toExt).at hu) ?_;refine ρn ?_;refine nop ?_;refine bsl (Uw 1 2) ?_;intro hl ij bm gc dh;refine ρ ?_;refine Jg (GrN.ext bm) ?_;refine ρn ?_;refine nop ?_;refine cl (Ut dh) ?_
 rintro _ dx ⟨Aa,ca,rfl,g0,gk,bj⟩;refine ρ ?_;refine Jg (GrN.ext bj) ?_;refine ρn ?_;refine nop ?_;have bf:Ext C dx:=(bh.trans bm).trans bj;refine cl (Jql (q:=nR 1 2) (a3.ext (J.trans bf)) (ay.ext bf) gk g0) ?_;rintro u c0 ⟨bi,_,U⟩;obtain ⟨kv,sta,rfl,d5,_⟩:=U rfl;rw [f4]at d5;rw [h5];obtain ⟨Ka,i5,rfl,_⟩:=id d5;refine ρ ?_;refine Jg (GrN.ext bi) ?_;refine ρn ?_;refine ρ ?_;have ch:Ext C c0:=bf.trans bi;have ab:Ext c0 c0.drew:=(Ext.refl _).drew;refine drN (λ_=>False) 13 [(0,0),(1,1),(1,2),(1,3),(0,4),(0,5),(0,6),(0,7),(0,8),(0,9),(0,10),(0,11),(0,12)] kr ?_;refine ρn ?_;refine Xc (cs:=[.slice XA 2 xd,.slice YA 2 yd,.slice ZA 2 zd,.slice UA 2 ud,.slice TA tn tc]) (λw' hg j u hu=>(((a1.ext ch).ext ab).ext hg.toExt).at hu) ?_;refine ρn ?_;refine nop ?_;refine bsl (Uw 2 2) ?_;intro hj ii ax gb dg;refine ρ ?_;refine Jg (GrN.ext ax) ?_;refine ρn ?_;refine nop ?_;refine cl (Ut dg) ?_
 rintro _ dw ⟨Ab,cb,rfl,fz,gj,ao⟩;refine ρ ?_;refine Jg (GrN.ext ao) ?_;refine ρn ?_;refine nop ?_;have be:Ext C dw:=(((ch).trans ab).trans ax).trans ao;refine cl (Jql (q:=nR 2 2) (a3.ext (J.trans be)) (ay.ext be) gj fz) ?_;rintro u bz ⟨ah,_,U⟩;obtain ⟨kv,stb,rfl,d4,_⟩:=U rfl;rw [h4]at d4;rw [h3];obtain ⟨Kb,i4,rfl,_⟩:=id d4;refine ρ ?_;refine Jg (GrN.ext ah) ?_;refine ρn ?_;refine ρ ?_;have cg:Ext C bz:=be.trans ah;have aa:Ext bz bz.drew:=(Ext.refl _).drew;refine drN (λ_=>False) 13 [(0,0),(1,1),(1,2),(1,3),(0,4),(0,5),(0,6),(0,7),(0,8),(0,9),(0,10),(0,11),(0,12)] kr ?_;refine ρn ?_;refine Xc (cs:=[.slice XA 2 xd,.slice YA 2 yd,.slice ZA 2 zd,.slice UA 2 ud,.slice TA tn tc]) (λw' hg j u hu=>(((a1.ext cg).ext aa).ext hg.toExt).at hu) ?_;refine ρn ?_;refine nop ?_;refine bsl (Uw 9 9) ?_;intro hh ih aw ga df;refine ρ ?_;refine Jg (GrN.ext aw) ?_;refine ρn ?_;refine nop ?_
 refine cl (Ut df) ?_;rintro _ dv ⟨Ac,cc,rfl,fy,gi,an⟩;refine ρ ?_;refine Jg (GrN.ext an) ?_;refine ρn ?_;refine nop ?_;have bd:Ext C dv:=(((cg).trans aa).trans aw).trans an;refine cl (Jql (q:=nR 9 9) (a3.ext (J.trans bd)) (ay.ext bd) gi fy) ?_;rintro u bw ⟨ag,_,U⟩;obtain ⟨kv,i0,rfl,d3,_⟩:=U rfl;rw [gz]at d3;rw [gy];obtain ⟨Kc,i3,rfl,_⟩:=id d3;refine ρ ?_;refine Jg (GrN.ext ag) ?_;refine ρn ?_;refine ρ ?_;have ce:Ext C bw:=bd.trans ag;have a9:Ext bw bw.drew:=(Ext.refl _).drew;refine drN (λ_=>False) 13 [(0,0),(1,1),(1,2),(1,3),(0,4),(0,5),(0,6),(0,7),(0,8),(0,9),(0,10),(0,11),(0,12)] kr ?_;refine ρn ?_;refine Xc (cs:=[.slice XA 2 xd,.slice YA 2 yd,.slice ZA 2 zd,.slice UA 2 ud,.slice TA tn tc]) (λw' hg j u hu=>(((a1.ext ce).ext a9).ext hg.toExt).at hu) ?_;refine ρn ?_;refine nop ?_;refine bsl (bs1J 1) ?_;intro he ig av g9 de;refine ρ ?_;refine Jg (GrN.ext av) ?_
 refine ρn ?_;refine nop ?_;refine cl (Qjr de) ?_;rintro _ du ⟨Ap,cp,rfl,fu,gf,am⟩;refine ρ ?_;refine Jg (GrN.ext am) ?_;refine ρn ?_;refine nop ?_;have bc:Ext C du:=(((ce).trans a9).trans av).trans am;refine cl (Jrr (q:=[nV 1]) (a3.ext (J.trans bc)) (ay.ext bc) gf fu) ?_;rintro u bv ⟨af,_,U⟩;obtain ⟨lv,hv,stp,rfl,d9,dj,_⟩:=U (by decide);rw [gw]at dj;rw [gx]at d9;obtain ⟨Kp,i2,rfl,_⟩:=id d9;obtain ⟨Hp,hs,rfl,_⟩:=id dj;refine ρ ?_;refine Jg (GrN.ext af) ?_;refine ρn ?_;refine ρ ?_;have cd:Ext C bv:=bc.trans af;have a8:Ext bv bv.drew:=(Ext.refl _).drew;refine drN (λ_=>False) 13 [(0,0),(1,1),(1,2),(1,3),(0,4),(0,5),(0,6),(0,7),(0,8),(0,9),(0,10),(0,11),(0,12)] kr ?_;refine ρn ?_;refine Xc (cs:=[.slice XA 2 xd,.slice YA 2 yd,.slice ZA 2 zd,.slice UA 2 ud,.slice TA tn tc]) (λw' hg j u hu=>(((a1.ext cd).ext a8).ext hg.toExt).at hu) ?_;refine ρn ?_;refine nop ?_
 refine bsl (bs1J 0) ?_;intro hc ie au g8 dd;refine ρ ?_;refine Jg (GrN.ext au) ?_;refine ρn ?_;refine nop ?_;refine cl (Qjr dd) ?_;rintro _ dt ⟨Aq,cq,rfl,ft,ge,ak⟩;refine ρ ?_;refine Jg (GrN.ext ak) ?_;refine ρn ?_;refine nop ?_;have bb:Ext C dt:=(((cd).trans a8).trans au).trans ak;refine cl (Jrr (q:=[nV 0]) (a3.ext (J.trans bb)) (ay.ext bb) ge ft) ?_;rintro u bu ⟨ae,_,U⟩;obtain ⟨lv,hv,hz,rfl,d8,di,_⟩:=U (by decide);rw [gt]at di;rw [gu]at d8;obtain ⟨Kq,i1,rfl,_⟩:=id d8;obtain ⟨Hq,hq,rfl,_⟩:=id di;refine ρ ?_;refine Jg (GrN.ext ae) ?_;refine ρn ?_;refine ρ ?_;have c9:Ext C bu:=bb.trans ae;have a7:Ext bu bu.drew:=(Ext.refl _).drew;refine drN (λ_=>False) 13 [(0,0),(1,1),(1,2),(1,3),(0,4),(0,5),(0,6),(0,7),(0,8),(0,9),(0,10)] kr ?_;refine ρn ?_;refine Xc (cs:=[.slice XA 2 xd,.slice YA 2 yd,.slice ZA 2 zd,.slice UA 2 ud,.slice TA tn tc]) (λw' hg j u hu=>(((a1.ext c9).ext a7).ext hg.toExt).at hu) ?_
 refine ρn ?_;refine nop ?_;refine bsl (Uw 1 2) ?_;intro ha ic aq g7 dc;refine ρ ?_;refine Jg (GrN.ext aq) ?_;refine ρn ?_;refine nop ?_;refine cl (Ut dc) ?_;rintro _ dq ⟨An,cn,rfl,fw,gg,aj⟩;refine ρ ?_;refine Jg (GrN.ext aj) ?_;refine ρn ?_;refine nop ?_;have ba:Ext C dq:=(((c9).trans a7).trans aq).trans aj;refine cl (Qfd (q:=nR 1 2) (a3.ext (J.trans ba)) (ay.ext ba) gg fw) ?_;rintro u bt ⟨ad,_,U⟩;have h1:=U rfl;rw [exR_n]at h1;obtain ⟨An,cn,rfl,ey,eu⟩:=h1.some (r:=nR 1 3) rfl;refine ρ ?_;refine Jg (GrN.ext ad) ?_;refine ρn ?_;refine ρ ?_;have c8:Ext C bt:=ba.trans ad;have a6:Ext bt bt.drew:=(Ext.refl _).drew;refine drN (λ_=>False) 13 [(0,0),(1,1),(1,2),(1,3),(0,4),(0,5),(0,6),(0,7),(0,8),(0,9),(0,10)] kr ?_;refine ρn ?_;refine Xc (cs:=[.slice XA 2 xd,.slice YA 2 yd,.slice ZA 2 zd,.slice UA 2 ud,.slice TA tn tc]) (λw' hg j u hu=>(((a1.ext c8).ext a6).ext hg.toExt).at hu) ?_
 refine ρn ?_;refine nop ?_;refine bsl (Uw 1 2) ?_;intro h9 ib ap g6 db;refine ρ ?_;refine Jg (GrN.ext ap) ?_;refine ρn ?_;refine nop ?_;refine cl (Ut db) ?_;rintro _ dn ⟨Am,cm,rfl,fx,gh,ai⟩;refine ρ ?_;refine Jg (GrN.ext ai) ?_;refine ρn ?_;refine nop ?_;have b8:Ext C dn:=(((c8).trans a6).trans ap).trans ai;refine cl (Qfc (q:=nR 1 2) (a3.ext (J.trans b8)) (ay.ext b8) gh fx) ?_;rintro u o ⟨ac,_,U⟩;have h1:=U rfl;rw [f4,if_neg (by decide)]at h1;obtain ⟨Am,cm,rfl,ez,ew⟩:=h1.some (r:=nR 1 1) rfl;refine ρ ?_;refine Jg (GrN.ext ac) ?_;refine ρn ?_;refine ρ ?_;have dz:Ext C o:=b8.trans ac;have cr:Ext o o:=Ext.refl _;have cv:Ext bt o:=((((a6.trans ap).trans ai).trans ac).trans cr);have bq:Ext bu o:=((((a7.trans aq).trans aj).trans ad).trans cv);have br:Ext bv o:=((((a8.trans au).trans ak).trans ae).trans bq);have cw:Ext bw o:=((((a9.trans av).trans am).trans af).trans br)
 have cx:Ext bz o:=((((aa.trans aw).trans an).trans ag).trans cw);have ep:Ext c0 o:=((((ab.trans ax).trans ao).trans ah).trans cx);refine cl (Jjq (k:=1) (d5.ext ep) (by decide)) ?_;rintro _ u0 ⟨rfl,ec⟩;rw [decide_eq_true rfl];refine ρ ?_;have en:Ext o u0:=ec;refine cl (Jjq (k:=2) (d4.ext (cx.trans en)) (by decide)) ?_;rintro _ u1 ⟨rfl,eb⟩;rw [decide_eq_true rfl];refine ρ ?_;have em:Ext o u1:=en.trans eb;refine cl (Jjq (k:=3) (d3.ext (cw.trans em)) (by decide)) ?_;rintro _ u2 ⟨rfl,ea⟩;rw [decide_eq_true rfl];refine ρ ?_;have ek:Ext o u2:=em.trans ea;refine cl (Jjq (k:=0) (d9.ext (br.trans ek)) (by decide)) ?_;rintro _ u3 ⟨rfl,e9⟩;rw [decide_eq_true rfl];refine ρ ?_;have ej:Ext o u3:=ek.trans e9;refine cl (Jjq (k:=2) (dj.ext (br.trans ej)) (by decide)) ?_;rintro _ u4 ⟨rfl,e8⟩;rw [decide_eq_true rfl];refine ρ ?_;have ei:Ext o u4:=ej.trans e8;refine cl (Jjq (k:=0) (d8.ext (bq.trans ei)) (by decide)) ?_
 rintro _ u5 ⟨rfl,e7⟩;rw [decide_eq_true rfl];refine ρ ?_;have eh:Ext o u5:=ei.trans e7;refine cl (Jjq (k:=0) (di.ext (bq.trans eh)) (by decide)) ?_;rintro _ u6 ⟨rfl,e6⟩;rw [decide_eq_true rfl];refine ρ ?_;have fh:Ext o u6:=eh.trans e6;refine bsl (Uw 1 3) ?_;intro u7 ia e3 hw er;refine ρ ?_;refine cl (Ut er) ?_;rintro _ u8 ⟨A7,c7,rfl,g1,gl,e1⟩;refine ρ ?_;have eg:Ext o u8:=(fh.trans e3).trans e1;refine cl (Jpx (a:=nR 1 3) (b:=nR 1 3) ⟨An,cn,rfl,eu,by decide,Rd.ext ey (cv.trans eg)⟩ ⟨A7,c7,rfl,g1,by decide,gl⟩) ?_;rintro _ u9 ⟨rfl,e0⟩;rw [decide_eq_true rfl];refine ρ ?_;have fg:Ext o u9:=eg.trans e0;refine bsl (Uw 1 1) ?_;intro hy hx d2 g5 da;refine ρ ?_;refine cl (Ut da) ?_;rintro _ f7 ⟨h8,h6,rfl,ex,f2,d1⟩;refine ρ ?_;have co:Ext o f7:=(fg.trans d2).trans d1;refine cl (Jpx (a:=nR 1 1) (b:=nR 1 1) ⟨Am,cm,rfl,ew,by decide,Rd.ext ez (cr.trans co)⟩ ⟨h8,h6,rfl,ex,by decide,f2⟩) ?_
 rintro _ f6 ⟨rfl,d0⟩;rw [decide_eq_true rfl];refine ρ ?_;have el:Ext o f6:=co.trans d0;exact Jq ⟨rfl,(J.trans dz).trans el⟩
end Go.Proofs.YtebcagekopgdhaaGreatDoor
