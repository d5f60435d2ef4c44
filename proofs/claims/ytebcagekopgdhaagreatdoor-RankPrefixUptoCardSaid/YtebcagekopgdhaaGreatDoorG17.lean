/- Part 17. -/
import Derived.Test.YtebcagekopgdhaaGreatDoorG16
set_option linter.unusedVariables false
set_option maxRecDepth 100000
set_option maxHeartbeats 40000000
namespace Go.Proofs.YtebcagekopgdhaaGreatDoor
open Pl Go.Wk
variable {l out:List Row}{i k m n s v:Nat}{vars:Nat->List Nat}{rs:Nat->List Row}{g g':Nat->Row}{y z:Row}
theorem Jfm{α:Type}: ∀ {l m:List α},l.Nodup->(∀ x∈l,x∈m)->l.length<=m.length
 | [],_,_,_=>Nat.zero_le _
 | x::l,m,hn,hs=>by
  obtain ⟨a,b,rfl⟩:=List.append_of_mem (hs x mC);have hn':=List.nodup_cons.1 hn;have:=Jfm (l:=l) (m:=a++b) hn'.2 λy hy=>by
   have h1:=hs y (List.mem_cons_of_mem _ hy);rcases List.mem_append.1 h1 with h2|h2
   .exact List.mem_append_left _ h2
   .rcases List.mem_cons.1 h2 with rfl|h2
    .exact absurd hy hn'.1
    .exact List.mem_append_right _ h2
  simp only [List.length_append,List.length_cons]at this ⊢;omega
def Iz(rs:Nat->List Row): Nat->List (List Row)
 | 0=>[[]]
 | m+1=>(Iz rs m).flatMap λc=>(rs m).map λr=>c++[r]
theorem Qxp(rs:Nat->List Row): ∀ m,(Iz rs m).length=Jd m λi=>(rs i).length
 | 0=>rfl
 | m+1=>by
  rw [Iz,Jd,<-Qxp rs m];generalize Iz rs m=l
  induction l with
  | nil=>simp
  | cons c l ih=>rw [List.flatMap_cons,List.length_append,ih,List.length_map,List.length_cons,Nat.succ_mul,Nat.add_comm]
theorem Qxn{rs:Nat->List Row}(g:Nat->Row): ∀ m,(∀ i,i<m->g i∈rs i)->(List.range m).map g∈Iz rs m
 | 0,_=>by simp [Iz]
 | m+1,h=>by
  rw [List.range_succ,List.map_append,Iz,List.mem_flatMap];refine ⟨_,Qxn g m λi hi=>h i om,?_⟩;exact List.mem_map.2 ⟨g m,h m om,rfl⟩
theorem Qxl(F:(Nat->Row)->Row)(hF:∀ g g',(∀ i,i<m->g i=g' i)->F g=F g')(hn:l.Nodup)(h:∀ x∈l,∃ g:Nat->Row,(∀ i,i<m->g i∈rs i)/\x=F g):
  l.length<=Jd m λi=>(rs i).length:=by
 rw [<-Qxp];have:=Jfm (m:=(Iz rs m).map λc=>F λi=>c.getD i []) hn λx o=>by
  obtain ⟨g,u,rfl⟩:=h x o;refine List.mem_map.2 ⟨_,Qxn g m u,hF _ _ λi hi=>?_⟩;simp [List.getD,hi]
 rw [List.length_map]at this;exact this
theorem Jtx{ds:List Bool}(h:Lt ds l): l.Nodup:=h.imp fun {a b} hab e=>by rw [e,Va]at hab;omega
def Jjd(m:Nat)(vars:Nat->List Nat)(g:Nat->Row)(v:Nat): V:=match (List.range m).find? λi=>decide (v∈vars i) with
 | some i=>(g i).getD (lv (vars i) v) V0
 | none=>V0
theorem Jsr(h:∀ i,i<m->g i=g' i)(v:Nat): Jjd m vars g v=Jjd m vars g' v:=by
 unfold Jjd;cases hf:(List.range m).find? λi=>decide (v∈vars i) with
 | none=>rfl
 | some i=>simp only;rw [h i (List.mem_range.1 (List.mem_of_find?_eq_some hf))]
theorem Jsq(hasc:∀ i,i<m->Xx (vars i))(hc:∃ i,i<m/\v∈vars i)(h:∀ i,i<m->∀ j,j<(vars i).length->(vars i).getD j 0=v->(g i).getD j V0=z.getD v V0): Jjd m vars g v=z.getD v V0:=by
 unfold Jjd;cases hf:(List.range m).find? λi=>decide (v∈vars i) with
 | none=>
  obtain ⟨i,hi,o⟩:=hc;have:=List.find?_eq_none.1 hf i (List.mem_range.2 hi);simp [o]at this
 | some i=>
  have hi:=List.mem_range.1 (List.mem_of_find?_eq_some hf);have o:v∈vars i:=by simpa using List.find?_some hf
  have:=Vs (hasc i hi) o;exact h i hi _ this.2.1 this.2.2
theorem Qts(hasc:∀ i,i<m->Xx (vars i))(hc:∀ v,v<n->∃ i,i<m/\v∈vars i)(hs:s<2^n)(hl:Lt [] l)(h:∀ x∈l,∃ z:Row,z.length=n/\x=pmR (bk s 32) z/\Kk m vars rs s z): l.length<=Jd m λi=>(rs i).length:=by
 refine Qxl (F:=λg=>(bk s 32).map (Jjd m vars g)) (λg g' u=>List.map_congr_left λv _=>Jsr u v) (Jtx hl) λx G=>?_;obtain ⟨z,Z,rfl,C⟩:=h x G;obtain ⟨g,u⟩:∃ g:Nat->Row,∀ i,i<m->g i∈rs i/\∀ j,j<(vars i).length->s.testBit ((vars i).getD j 0)=true->(g i).getD j V0=z.getD ((vars i).getD j 0) V0:=by
  refine ⟨λi=>if hi:i<m then Classical.choose (C i hi) else [],λi hi=>?_⟩;simp only [hi,dite_true];exact Classical.choose_spec (C i hi)
 refine ⟨g,λi hi=>(u i hi).1,?_⟩;unfold pmR;refine List.map_congr_left λv O=>?_;obtain ⟨J,o⟩:=bk_mem.1 O;refine (Jsq hasc (hc v (Jzk hs o)) λi hi j U e=>?_).symm;have:=(u i hi).2 j U (by rw [e];exact o);rw [e]at this;exact this
section
variable (m:Nat) (vars:Nat->List Nat) (rs:Nat->List Row)
def Yr(vl:List Nat)(r:Row): Bool:=(List.range m).all λi=>(rs i).any λx=>decide (pmR (Qn (vars i) (Qk vl &&& Qk (vars i))) x=pmR (Qn vl (Qk vl &&& Qk (vars i))) r)
def Jwd(v:Nat): List Row:=(List.range m).flatMap λi=>(List.range (vars i).length).flatMap λk=>if (vars i).getD k 0=v then (rs i).map λr=>[r.getD k V0] else []
def Uq(v:Nat): List Row:=(Jwd m vars rs v).foldl (Zx []) []
def Xk(v:Nat): List V:=(Uq m vars rs v).map λr=>r.getD 0 V0
def Ip(vl:List Nat)(k:Nat)(out:List Row): List Row:=out.flatMap λr=>((Xk m vars rs (vl.getD k 0)).map λx=>r++[x]).filter (Yr m vars rs (vl.take (k+1)))
def Xq(vl:List Nat): Nat->List Row
 | 0=>[[]]
 | k+1=>Ip m vars rs vl k (Xq vl k)
def Xl(n:Nat): List Row:=if n=0 then (if Yr m vars rs [] [] then [[]] else []) else Xq m vars rs (List.range n) n
end
section
variable {n m:Nat} {vars:Nat->List Nat} {rs:Nat->List Row}
theorem Jkx{ds:List Bool}: ∀ (ls:List Row) {done l:List Row},IsSet ds done l->IsSet ds (done++ls) (ls.foldl (Zx ds) l)
 | [],done,l,h=>by simpa using h
 | r::ls,done,l,h=>by
  rw [List.foldl_cons];have:=Jkx ls (Qfg (r:=r) h);rwa [List.append_assoc]at this
theorem Jvg(v:Nat): IsSet [] (Jwd m vars rs v) (Uq m vars rs v):=by
 have:=Jkx (ds:=[]) (Jwd m vars rs v) (done:=[]) (l:=[]) ⟨List.Pairwise.nil,λx=>Iff.rfl⟩;rwa [List.nil_append]at this
theorem enumV_mem: y∈Jwd m vars rs v↔∃ i,i<m/\∃ k,k<(vars i).length/\(vars i).getD k 0=v/\∃ r∈rs i,y=[r.getD k V0]:=by
 unfold Jwd;simp only [List.mem_flatMap,List.mem_range];constructor
 .rintro ⟨i,hi,k,u,h⟩;split at h
  .rename_i e;obtain ⟨r,o,rfl⟩:=List.mem_map.1 h;exact ⟨i,hi,k,u,e,r,o,rfl⟩
  .cases h
 .rintro ⟨i,hi,k,u,e,r,o,rfl⟩;exact ⟨i,hi,k,u,by rw [if_pos e];exact List.mem_map.2 ⟨r,o,rfl⟩⟩
theorem valL_mem{x:V}: x∈Xk m vars rs v↔∃ i,i<m/\∃ k,k<(vars i).length/\(vars i).getD k 0=v/\∃ r∈rs i,x=r.getD k V0:=by
 unfold Xk;rw [List.mem_map];constructor
 .rintro ⟨y,C,rfl⟩;obtain ⟨i,hi,k,u,e,r,o,rfl⟩:=enumV_mem.1 (((Jvg v).2 y).1 C);exact ⟨i,hi,k,u,e,r,o,rfl⟩
 .rintro ⟨i,hi,k,u,e,r,o,rfl⟩;exact ⟨_,((Jvg v).2 _).2 (enumV_mem.2 ⟨i,hi,k,u,e,r,o,rfl⟩),rfl⟩
theorem Jcp(hy:y∈Uq m vars rs v): ∃ x,y=[x]:=by
 obtain ⟨i,hi,k,u,e,r,o,rfl⟩:=enumV_mem.1 (((Jvg v).2 y).1 hy);exact ⟨_,rfl⟩
theorem Qyk(v:Nat): (Xk m vars rs v).Nodup:=by
 unfold Xk List.Nodup;rw [List.pairwise_map];refine List.Pairwise.imp_of_mem (fun {a b} ha hb hab e=>?_) (Jvg (m:=m) (vars:=vars) (rs:=rs) v).1;obtain ⟨x,rfl⟩:=Jcp ha;obtain ⟨y,rfl⟩:=Jcp hb;simp only [List.getD_cons_zero]at e;subst e;rw [Va]at hab;omega
theorem Qnf{α β:Type}{f:α->List β}{l:List α}(h1:l.Nodup)(h2:∀ a∈l,(f a).Nodup)(h3:∀ a∈l,∀ b∈l,∀ x,x∈f a->x∈f b->a=b): (l.flatMap f).Nodup:=by
 induction l with
 | nil=>exact List.Pairwise.nil
 | cons a l ih=>
  obtain ⟨U,O⟩:=List.nodup_cons.1 h1;rw [List.flatMap_cons,List.nodup_append];refine ⟨h2 a mC,ih O (λb o=>h2 b (List.mem_cons_of_mem _ o)) (λb o c J=>h3 b (List.mem_cons_of_mem _ o) c (List.mem_cons_of_mem _ J)),λx G y C e=>?_⟩;subst e;obtain ⟨b,o,u⟩:=List.mem_flatMap.1 C;have:=h3 a mC b (List.mem_cons_of_mem _ o) x G u;subst this;exact U o
theorem Qcc{vl:List Nat}(h:out.Nodup): (Ip m vars rs vl k out).Nodup:=by
 unfold Ip;refine Qnf h (λr _=>?_) λa _ b _ x u o=>?_
 .refine List.Pairwise.sublist List.filter_sublist ?_;show (List.map _ _).Nodup;unfold List.Nodup;rw [List.pairwise_map];refine (Qyk (m:=m) (vars:=vars) (rs:=rs) (vl.getD k 0)).imp fun {x y} hxy e=>hxy ?_
  have:=List.append_cancel_left e;simpa using this
 .obtain ⟨G,O,rfl⟩:=List.mem_map.1 (List.mem_filter.1 u).1;obtain ⟨C,J,e⟩:=List.mem_map.1 (List.mem_filter.1 o).1;have:=congrArg List.dropLast e;simpa using this.symm
theorem Qkq(vl:List Nat): ∀ k,(Xq m vars rs vl k).Nodup
 | 0=>by simp [Xq]
 | k+1=>Qcc (Qkq vl k)
def Kz(m:Nat)(vars:Nat->List Nat)(rs:Nat->List Row)(k:Nat)(z:Row): Prop:=∀ i,i<m->∃ x∈rs i,∀ j,j<(vars i).length->(vars i).getD j 0<k->x.getD j V0=z.getD ((vars i).getD j 0) V0
theorem Ie{n:Nat}(h:i<n): (List.range n).getD i 0=i:=by simp [List.getD,h]
theorem Qpz(k s:Nat): Qn (List.range k) s=(List.range k).filter λu=>s.testBit u:=by
 unfold Qn;rw [List.length_range];exact List.filter_congr λu o=>by rw [Ie (List.mem_range.1 o)]
theorem Xjc{l:List Nat}{p:Nat->Bool}(ha:Xx l)(hp:∀ u,p u=true↔u∈l): (List.range k).filter p=l.filter λu=>decide (u<k):=by
 have key:∀ {a b:List Nat},Xx a->Xx b->(∀ u,u∈a↔u∈b)->a=b:=by
  intro a;induction a with
  | nil=>
   intro b _ _ h;cases b with
   | nil=>rfl
   | cons y b=>have:=(h y).2 mC;cases this
  | cons x a ih=>
   intro b ha O h;cases b with
   | nil=>have:=(h x).1 mC;cases this
   | cons y b=>
    obtain ⟨J,a2⟩:=List.pairwise_cons.1 ha;obtain ⟨G,b2⟩:=List.pairwise_cons.1 O;have C:x=y:=by
     have Z:=(h x).1 mC;have U:=(h y).2 mC;rcases List.mem_cons.1 Z with h3|h3
     .exact h3
     .rcases List.mem_cons.1 U with h4|h4
      .exact h4.symm
      .have:=J y h4;have:=G x h3;omega
    subst C;rw [ih a2 b2 λu=>?_];constructor
    .intro o;rcases List.mem_cons.1 ((h u).1 (List.mem_cons_of_mem _ o)) with h3|h3
     .subst h3;have:=J u o;omega
     .exact h3
    .intro o;rcases List.mem_cons.1 ((h u).2 (List.mem_cons_of_mem _ o)) with h3|h3
     .subst h3;have:=G u o;omega
     .exact h3
 refine key (List.Pairwise.sublist List.filter_sublist List.pairwise_lt_range) (List.Pairwise.sublist List.filter_sublist ha) λu=>?_;simp only [List.mem_filter,List.mem_range,decide_eq_true_eq,hp];exact ⟨λh=>⟨h.2,h.1⟩,λh=>⟨h.2,h.1⟩⟩
theorem Jgx(hasc:∀ i,i<m->Xx (vars i))(hlen:∀ i,i<m->∀ r∈rs i,r.length=(vars i).length)(k:Nat)(z:Row): Yr m vars rs (List.range k) z=true↔Kz m vars rs k z:=by
 unfold Yr Kz;simp only [List.all_eq_true,List.mem_range,List.any_eq_true,decide_eq_true_eq];refine ⟨λh i hi=>?_,λh i hi=>?_⟩;all_goals
  have o:∀ u,(Qk (List.range k) &&& Qk (vars i)).testBit u=true↔u<k/\u∈vars i:=λu=>by
   rw [Nat.testBit_and,Bool.and_eq_true,edgeOf_bit,edgeOf_bit,List.mem_range]
  obtain ⟨x,O,e⟩:=h i hi;refine ⟨x,O,?_⟩;have U:Qn (List.range k) (Qk (List.range k) &&& Qk (vars i))=inS (vars i) (Qk (List.range k) &&& Qk (vars i)):=by
   rw [Qpz];have:(List.range k).filter (λu=>(Qk (List.range k) &&& Qk (vars i)).testBit u)=(List.range k).filter λu=>decide (u∈vars i):=List.filter_congr λu J=>by
    rw [Bool.eq_iff_iff,o u,decide_eq_true_eq];exact ⟨λh=>h.2,λh=>⟨List.mem_range.1 J,h⟩⟩
   rw [this,Xjc (hasc i hi) λu=>by simp];unfold inS;refine List.filter_congr λu J=>?_;rw [Bool.eq_iff_iff,o u,decide_eq_true_eq];exact ⟨λh=>⟨h,J⟩,λh=>h.1⟩
  have G:=Jhj (vars:=vars i) (s:=Qk (List.range k) &&& Qk (vars i)) (r:=x) (z:=z) (hlen i hi x O) (vars i).length (Nat.le_refl _);rw [List.take_length]at G;have e3:Xp (vars i) (Qk (List.range k) &&& Qk (vars i)) (vars i).length=Qn (vars i) (Qk (List.range k) &&& Qk (vars i)):=rfl;rw [e3]at G
 .rw [U]at e;intro j C Z;exact G.1 e j C ((o _).2 ⟨Z,getD_mem' 0 _ C⟩)
 .rw [U];exact G.2 λj C hb=>e j C ((o _).1 hb).1
theorem Qnl{l:Nat}(hkl:k<=l): Kz m vars rs k (z.take l)↔Kz m vars rs k z:=by
 unfold Kz;refine forall_congr' λi=>forall_congr' λhi=>exists_congr λx=>and_congr_right λu=>forall_congr' λj=>forall_congr' λC=>?_;refine ⟨λh o=>?_,λh o=>?_⟩
 .have:=h o;rwa [Pl.getD_take V0 om]at this
 .rw [Pl.getD_take V0 om];exact h o
theorem Jbt(hasc:∀ i,i<m->Xx (vars i))(hlen:∀ i,i<m->∀ r∈rs i,r.length=(vars i).length)(hn:∀ v,v<n->∃ i,i<m/\v∈vars i): ∀ k,k<=n->∀ z:Row,z∈Xq m vars rs (List.range n) k↔z.length=k/\(k=0∨Kz m vars rs k z)
 | 0,_,z=>by
  rw [Xq,List.mem_singleton];exact ⟨λh=>by subst h;exact ⟨rfl,.inl rfl⟩,λh=>List.eq_nil_of_length_eq_zero h.1⟩
 | k+1,hk,z=>by
  have ih:=Jbt hasc hlen hn k om;rw [Xq];unfold Ip;rw [Ie om,Qds om];simp only [List.mem_flatMap,List.mem_filter,List.mem_map];constructor
  .rintro ⟨r,hr,⟨x,hx,rfl⟩,hf⟩;have h1:=(ih r).1 hr;exact ⟨by simp [h1.1],.inr ((Jgx hasc hlen (k+1) _).1 hf)⟩
  .rintro ⟨hl,h⟩;have hf:Kz m vars rs (k+1) z:=h.resolve_left om;have hz:z=z.take k++[z.getD k V0]:=Jpg V0 hl;refine ⟨z.take k,(ih _).2 ⟨by rw [List.length_take];omega,?_⟩,⟨z.getD k V0,?_,hz.symm⟩,(Jgx hasc hlen (k+1) _).2 hf⟩
   .refine .inr ((Qnl (Nat.le_refl _)).2 λi hi=>?_);obtain ⟨x,hx,h1⟩:=hf i hi;exact ⟨x,hx,λj hj hjk=>h1 j hj om⟩
   .obtain ⟨i,hi,hv⟩:=hn k om;obtain ⟨x,hx,h1⟩:=hf i hi;have h2:=Vs (hasc i hi) hv;refine valL_mem.2 ⟨i,hi,_,h2.2.1,h2.2.2,x,hx,?_⟩;have:=h1 _ h2.2.1 (by rw [h2.2.2];omega);rw [h2.2.2]at this;exact this.symm
theorem Qkr(hasc:∀ i,i<m->Xx (vars i))(hlen:∀ i,i<m->∀ r∈rs i,r.length=(vars i).length)(hn:∀ v,v<n->∃ i,i<m/\v∈vars i)(hk:k<=n): (Xq m vars rs (List.range n) k).length<=max 1 (Jd m λi=>(rs i).length):=by
 by_cases h0:k=0
 .subst h0;simp only [Xq,List.length_singleton];omega
 .refine nL (Qxl (F:=λg=>(List.range k).map (Jjd m vars g)) (λg g' o=>List.map_congr_left λv _=>Jsr o v) (Qkq _ k) λx G=>?_) (Nat.le_max_right _ _);obtain ⟨h1,Z⟩:=(Jbt hasc hlen hn k hk x).1 G;have C:Kz m vars rs k x:=Z.resolve_left h0;obtain ⟨g,o⟩:∃ g:Nat->Row,∀ i,i<m->g i∈rs i/\∀ j,j<(vars i).length->(vars i).getD j 0<k->(g i).getD j V0=x.getD ((vars i).getD j 0) V0:=by
   refine ⟨λi=>if hi:i<m then Classical.choose (C i hi) else [],λi hi=>?_⟩;simp only [hi,dite_true];exact Classical.choose_spec (C i hi)
  refine ⟨g,λi hi=>(o i hi).1,?_⟩;apply List.ext_getElem
  .simp [h1]
  .intro v u J;have O:=Jsq (g:=g) (z:=x) hasc (hn v om) λi hi j U e=>by
    have:=(o i hi).2 j U om;rw [e]at this;exact this
   rw [List.getElem_map,List.getElem_range,O];simp [List.getD,u]
theorem Jgh(hasc:∀ i,i<m->Xx (vars i))(hlen:∀ i,i<m->∀ r∈rs i,r.length=(vars i).length)(hlt:∀ i,i<m->∀ v∈vars i,v<n)(hn:∀ v,v<n->∃ i,i<m/\v∈vars i)(z:Row): z∈Xl m vars rs n↔Ze n m vars rs z:=by
 have key:z.length=n->(Kz m vars rs n z↔∀ i,i<m->pmR (vars i) z∈rs i):=λu=>by
  constructor
  .intro h i hi;obtain ⟨x,J,G⟩:=h i hi;have:pmR (vars i) z=x:=by
    apply List.ext_getElem
    .rw [Qr,hlen i hi x J]
    .intro j o h3;rw [Qr]at o;have Z:(vars i).getD j 0<n:=hlt i hi _ (getD_mem' 0 _ o);have O:=G j o Z;have e1:(vars i).getD j 0=(vars i)[j]:=by simp [List.getD,o]
     have e2:x.getD j V0=x[j]:=by simp [List.getD,h3]
     rw [e1,e2]at O;simp only [pmR,List.getElem_map];exact O.symm
   rw [this];exact J
  .intro h i hi;refine ⟨_,h i hi,λj U _=>?_⟩;unfold pmR;simp [List.getD,U]
 unfold Xl Ze;split
 .rename_i h0;subst h0;have C:=Jgx (vars:=vars) (rs:=rs) hasc hlen 0 [];rw [List.range_zero]at C;constructor
  .intro h;split at h
   .rename_i hb;rw [List.mem_singleton.1 h];exact ⟨rfl,(by have:=key;rw [List.mem_singleton.1 h]at this;exact (this rfl).1 (C.1 hb))⟩
   .cases h
  .rintro ⟨G,o⟩;have u:z=[]:=List.eq_nil_of_length_eq_zero G;subst u;rw [if_pos (C.2 ((key rfl).2 o))];exact List.mem_singleton.2 rfl
 .rename_i h0;rw [Jbt hasc hlen hn n (Nat.le_refl _) z];exact and_congr_right λu=>⟨λh=>(key u).1 (h.resolve_left h0),λh=>.inr ((key u).2 h)⟩
theorem Qjk(hasc:∀ i,i<m->Xx (vars i))(hlen:∀ i,i<m->∀ r∈rs i,r.length=(vars i).length)(hn:∀ v,v<n->∃ i,i<m/\v∈vars i): (Xl m vars rs n).length<=max 1 (Jd m λi=>(rs i).length):=by
 unfold Xl;split
 .split<;>simp<;>omega
 .exact Qkr hasc hlen hn (Nat.le_refl _)
end
end Go.Proofs.YtebcagekopgdhaaGreatDoor
namespace Go.Wk
open Go.RowKit
variable {k2:IntKind}{s v:Nat}{x y:Operand}{t yt:TypeId}
section
variable {P:Program} {n:Nat} {al:AL} {w:World} {Q:Exit->Act->World->Prop} {ops:Array Oper} {rest:List Oper} {d ty:Nat} {pos:String} {aft:Array Edge}
theorem sr32g(hv:v<=32)(kk:WL P n ops Q rest ((d,.int .u32 ((s / 2^v:Nat):Int))::al) w)(hx:ev al x=some (.int .u32 (s:Int)):=by rfl)(hy:ev al y=some (.int k2 (v:Int)):=by rfl)(hd:Nat.blt d n=true:=by rfl):
  WL P n ops Q (⟨some d,.binOp .shr t x y yt,ty,pos,aft,none⟩::rest) al w:=by
 rw [<-Jpn s v hv]at kk;exact wop hd (λa o=>Jpt hx hy om o (some d) w) kk
theorem Jph(hv:v<32)(kk:WL P n ops Q rest ((d,.int .u32 ((2^v:Nat):Int))::al) w)(hy:ev al y=some (.int k2 (v:Int)):=by rfl)(hd:Nat.blt d n=true:=by rfl):
  WL P n ops Q (⟨some d,.binOp .shl t (.const (.int .u32 1)) y yt,ty,pos,aft,none⟩::rest) al w:=by
 rw [<-Jvl hv]at kk;exact wop hd (λa o=>Jzz (x:=.const (.int .u32 1)) rfl hy om o (some d) w) kk
end
end Go.Wk
namespace Go.Proofs.YtebcagekopgdhaaGreatDoor
open Go.RowKit Pl Go.Wk
attribute [local irreducible] WC WL QX WD WDB WP WN WG WH
variable {l vars:List Nat}{s:Nat}{rv v vv:Value}{w:World}
theorem IntsV.n(h:IntsV w v (nz l)): ∃ A c,v=.slice A l.length c/\l.length<=c/\l.length<=1100000/\Rd w 1 A l.length (Jt (nz l)):=by
 obtain ⟨A,c,G,C,u,o⟩:=h;rw [Qq]at G C u o;exact ⟨A,c,G,C,u,o⟩
theorem Jrz{v:Nat}(hs:s<4294967296)(hv:v<=32)(w:World): Ret Tryz.prog 194 [.int .u32 (s:Int),.int .i64 (v:Int)] w λu w'=>u=.bool (s.testBit v)/\w'=w:=by
 refine Jz Tryz.func194 Tryz.ntmps194 rfl kr rfl ?_;refine ρ ?_;refine Go.Wk.kv 7 (congrArg (λz=>Value.int .u64 z) (Ut (z:=(v:Int)) om)) ?_;refine sr32g (s:=s) (v:=v) hv ?_;refine ρ ?_;rw [Un hs];exact Jq ⟨rfl,rfl⟩
theorem Jrw(h:IntsV w v (nz l))(hl:∀ u∈l,u<32): Ret Tryz.prog 195 [v] w λu w'=>u=.int .u32 (Qk l:Int)/\w'=w:=by
 obtain ⟨A,c,rfl,hc,hm,J⟩:=h.n;refine Jz Tryz.func195 Tryz.ntmps195 rfl kr rfl ?_;refine ρ ?_;refine Qh (fun (i:Nat)=>[(0,.slice A l.length c),(3,.int .u32 (Qk (l.take i):Int)),(4,.int .i64 (i:Int))])
  (λi w'=>i<=l.length/\w'=w) (λi=>l.length-i) 0 sB ⟨Nat.zero_le _,rfl⟩ ?_
 rintro i w1 ⟨hi,rfl⟩;refine ρ ?_;refine ci (λh=>?_) (λh=>?_)
 .have C:i<l.length:=by have:=oT h;omega
  clear h;have o:=hl _ (getD_mem' 0 l C);refine ρ ?_;refine ix i J C ?_;refine ρ ?_;refine ld (J.cell (Xn C)) ?_;refine ρ ?_;refine Go.Wk.kv 16 (congrArg (λz=>Value.int .u64 z) (Ut (z:=(l.getD i 0:Int)) om)) ?_;refine Jph (v:=l.getD i 0) o ?_;refine ρ ?_;have e:Qk (l.take (i+1))=Qk (l.take i) ||| 2^l.getD i 0:=by rw [Qb 0 C];exact Qqw _ _ _
  have Z:Qk (l.take i)<4294967296:=Jxz (n:=32) λv O=>hl v (List.mem_of_mem_take O);have U:=Jjv Z (Gl o);rw [U,<-e];exact Qv (i+1) sO ⟨C,rfl⟩ om
 .have G:i=l.length:=by have:=oF h;omega
  subst G;clear h;refine ρ ?_;rw [List.take_length];exact Jq ⟨rfl,rfl⟩
theorem Jrx{r:Row}(hr:RowV w rv r)(hv:IntsV w vv (nz vars))(hs:s<4294967296)(hl:∀ u∈vars,u<32)(hrl:r.length=vars.length):
  Ret Tryz.prog 196 [rv,vv,.int .u32 (s:Int)] w λu w'=>RowV w' u (pmR (Qn vars s) r)/\Ext w w':=by
 obtain ⟨A,c,rfl,hc,hm,hR⟩:=id hr;obtain ⟨B,d,rfl,hd,aa,hV⟩:=hv.n;refine Jz Tryz.func196 Tryz.ntmps196 rfl kr rfl ?_;refine ρ ?_;refine bsl Jjs ?_;intro w0 b0 a1 a7 a8;refine ρ ?_;refine Je (fun (k:Nat) (J:Value)=>[(0,.slice A r.length c),(1,.slice B vars.length d),(2,.int .u32 (s:Int)),(7,J),(8,.int .i64 (k:Int))])
  (λk J w'=>k<=vars.length/\Ext w w'/\Zs w' w.heap.size J (pmR (Xp vars s k) r)) (λk _=>vars.length-k) 0 (.slice (some ⟨b0,0,none⟩) 0 0) sB
  ⟨Nat.zero_le _,a1,a8.own (n:=0) a7 rfl (Nat.zero_le _)⟩ ?_
 rintro k J w1 ⟨hk,o,G⟩;refine ρ ?_;refine ci (λh=>?_) (λh=>?_)
 .have lk:k<vars.length:=by have:=oT h;omega
  clear h;have U:RdR w1 A r:=Rd.ext hR o;have O:=hl _ (getD_mem' 0 vars lk);have a5:(Xp vars s k).length<=k:=by
   have:=List.length_filter_le (λi=>s.testBit (vars.getD i 0)) (List.range k);rw [List.length_range]at this;exact this
  refine ρ ?_;refine ix k (hV.ext o) lk ?_;refine ρ ?_;refine ld ((hV.ext o).cell (Xn lk)) ?_;refine ρ ?_;refine cl (Jrz hs (Nat.le_of_lt O) w1) ?_;rintro _ Z ⟨rfl,e1⟩;rw [e1];clear e1 Z;refine ρ ?_;refine ci (λh=>?_) (λh=>?_)
  .refine ρ ?_;refine ixq 3 k U om ?_;refine ρ ?_;refine lds (cs:=(r.getD k V0).cells) (λj u hu=>RdR.cell U om hu) ?_;refine ρ ?_;refine bsl (Jhr _) ?_;intro w2 b C hb hB;refine ρ ?_;refine apb (m':=1) (news:=(r.getD k V0).cells) EV (Jk G C) (hB.rd (n:=1) rfl) (V.one _) (by rw [Qr];unfold maxLen;omega) (by rw [Qr];omega) (o.trans C).size ?_;intro v3 w3 a2 a4 a9;refine ρ ?_;refine Jl (k+1) v3 sO ⟨lk,Qf (o.trans C) a4 (Gm (Jk G C)),?_⟩ om;have e:pmR (Xp vars s (k+1)) r=pmR (Xp vars s k) r++[r.getD k V0]:=by rw [Kx,if_pos h];simp [pmR]
   rw [Zs,e,List.length_append,rowC_app',rowC_one''];exact a2
  .refine ρ ?_;refine Jl (k+1) J sO ⟨lk,o,?_⟩ om;rw [Kx,if_neg (by rw [h];simp),List.append_nil];exact G
 .have a3:k=vars.length:=by have:=oF h;omega
  rw [a3]at G;have a5:(Xp vars s vars.length).length<=vars.length:=by
   have:=List.length_filter_le (λi=>s.testBit (vars.getD i 0)) (List.range vars.length);rw [List.length_range]at this;exact this
  obtain ⟨A3,c3,rfl,a6,_⟩:=Jy G;refine ρ ?_;refine Jq ⟨⟨A3,c3,rfl,a6,?_,Rd.own G⟩,o⟩;show (pmR (Xp vars s vars.length) r).length<=_;rw [Qr];omega
theorem Qdv(hs:s<4294967296)(w:World): Ret Tryz.prog 173 [.int .u32 (s:Int)] w λu w'=>IntsV w' u (nz (bk s 32))/\Ext w w':=by
 refine Jz Tryz.func173 Tryz.ntmps173 rfl kr rfl ?_;refine ρ ?_;refine Je (fun (k:Nat) (J:Value)=>[(0,.int .u32 (s:Int)),(3,J),(4,.int .i64 (k:Int))])
  (λk J w'=>k<=32/\Ext w w'/\Xo w' w.heap.size J (bk s k)) (λk _=>32-k) 0 (.slice none 0 0) sB
  ⟨Nat.zero_le _,Ext.refl _,Xa _ _ _ _⟩ ?_
 rintro k J w1 ⟨hk,C,G⟩;refine ρ ?_;refine ci (λh=>?_) (λh=>?_)
 .have lk:k<32:=by have:=oT h;omega
  clear h;have a2:=Yv s k;refine ρ ?_;refine cl (Jrz hs hk w1) ?_;rintro _ O ⟨rfl,e1⟩;rw [e1];clear e1 O;refine ρ ?_;refine ci (λh=>?_) (λh=>?_)
  .refine ρ ?_;refine bsl (bs1Int'' _) ?_;intro w2 b o hb hB;refine ρ ?_;refine apI (Jk G o) hB om (C.trans o).size ?_;intro v3 w3 U a1 a4;refine ρ ?_;refine Jl (k+1) v3 sO ⟨lk,Qf (C.trans o) a1 (Gm (Jk G o)),?_⟩ om;rw [Um,if_pos h];exact U
  .refine ρ ?_;refine Jl (k+1) J sO ⟨lk,C,?_⟩ om;rw [Um,if_neg (by rw [h];simp),List.append_nil];exact G
 .have Z:k=32:=by have:=oF h;omega
  rw [Z]at G;have a2:=Yv s 32;obtain ⟨A3,c3,rfl,a3,_⟩:=Jy G;refine ρ ?_;exact Jq ⟨⟨A3,c3,by rw [Qq],by rw [Qq];exact a3,by rw [Qq];omega,by rw [Qq];exact Rd.own G⟩,C⟩
open Go.RowKit Pl Go.Wk
structure RInM(w:World)(VA RA:Option Addr)(m:Nat)(vars:Nat->List Nat)(rs:Nat->List Row): Prop where
 v:∃ cs,Rd w 1 VA m cs/\∀ i,i<m->∃ u,cs[i]?=some u/\IntsV w u (nz (vars i))
 r:∃ cs,Rd w 1 RA m cs/\∀ i,i<m->∃ u,cs[i]?=some u/\RowsV w u (rs i)
theorem RInM.ext{w w':World}{VA RA:Option Addr}{m:Nat}{vars:Nat->List Nat}{rs:Nat->List Row}(h:RInM w VA RA m vars rs)(hx:Ext w w'): RInM w' VA RA m vars rs:=by
 obtain ⟨cs,O,J⟩:=h.v;obtain ⟨ds,G,C⟩:=h.r;exact ⟨⟨cs,O.ext hx,λi hi=>by obtain ⟨u,e,o⟩:=J i hi;exact ⟨u,e,o.ext hx⟩⟩,⟨ds,G.ext hx,λi hi=>by obtain ⟨u,e,o⟩:=C i hi;exact ⟨u,e,o.ext hx⟩⟩⟩
structure RefP(n m:Nat)(vars:Nat->List Nat)(rs:Nat->List Row): Prop where
 n32:n<=32
 m32:m<=32
 asc:∀ i,i<m->Xx (vars i)
 lt:∀ i,i<m->∀ v∈vars i,v<n
 len:∀ i,i<m->∀ r∈rs i,r.length=(vars i).length
 cov:∀ v,v<n->∃ i,i<m/\v∈vars i
 cnt:max 1 (Jd m λi=>(rs i).length)<=5000
 row:∀ i,i<m->(rs i).length<=10
def Vl(n f:Int)(pA:Option Addr)(pn pc:Nat)(VA:Option Addr)(vc:Nat)(RA:Option Addr)(rc m:Nat): List Value:=[.int .i64 n,.int .i64 f,.slice pA pn pc,.slice VA m vc,.slice RA m rc]
def Jwb(vars:Nat->List Nat)(rs:Nat->List Row)(vl:List Nat)(r:Row)(i:Nat)(x:Row): Bool:=decide (pmR (Qn (vars i) (Qk vl &&& Qk (vars i))) x=pmR (Qn vl (Qk vl &&& Qk (vars i))) r)
section
variable {n f:Int} {pA VA RA:Option Addr} {pn pc vc rc N m:Nat} {vars:Nat->List Nat} {rs:Nat->List Row} {w:World}
theorem Jsb(hP:RefP N m vars rs)(hM:RInM w VA RA m vars rs){vl:List Nat}{r:Row}{vv rv:Value}(hv:IntsV w vv (nz vl))(hr:RowV w rv r)(hvl:∀ u∈vl,u<32)(hrl:r.length=vl.length):
  Ret Tryz.prog 175 [.agg (Vl n f pA pn pc VA vc RA rc m).toArray,rv,vv] w λu w'=>u=.bool (Yr m vars rs vl r)/\Ext w w':=by
 have b5:=hP.m32;refine Jz Tryz.func175 Tryz.ntmps175 rfl kr rfl ?_;refine ρ ?_;refine bx (cs:=Vl n f pA pn pc VA vc RA rc m) ?_;intro w1 b J hb hB;refine ρ ?_;refine cl (Jrw (hv.ext J) hvl) ?_;rintro _ ak ⟨rfl,e1⟩;rw [e1];clear e1 ak;refine ρ ?_;refine Qh (fun (i:Nat)=>[(1,rv),(2,vv),(3,.pointer (some ⟨b,0,none⟩)),(7,.int .u32 (Qk vl:Int)),(8,.int .i64 (i:Int))])
  (λi w'=>i<=m/\Ext w1 w'/\(List.range i).all (λi=>(rs i).any (Jwb vars rs vl r i))=true) (λi=>m-i) 0 sB ⟨Nat.zero_le _,Ext.refl _,rfl⟩ ?_
 rintro i w2 ⟨hi,C,a3⟩;have aa:=hB.ext C;refine ρ ?_;refine ld (aa.at (i:=3) rfl) ?_;refine ρ ?_;refine ci (λh=>?_) (λh=>?_)
 .have li:i<m:=by have:=oT h;omega
  clear h;obtain ⟨b2,a1,ar⟩:=(hM.ext (J.trans C)).v;obtain ⟨b4,a6,au⟩:=(hM.ext (J.trans C)).r;obtain ⟨vi,ac,ag⟩:=ar i li;obtain ⟨ri,ad,b1⟩:=au i li;have O:∀ u∈vars i,u<32:=λu hu=>by have:=hP.lt i li u hu;have:=hP.n32;omega
  refine ρ ?_;refine ld (aa.at (i:=3) rfl) ?_;refine ρ ?_;refine ix i a1 li ?_;refine ρ ?_;refine ld (a1.cell ac) ?_;refine ρ ?_;refine cl (Jrw ag O) ?_;rintro _ aj ⟨rfl,e2⟩;rw [e2];clear e2 aj;have af:Qk vl<4294967296:=Jxz (n:=32) hvl;have ax:Qk (vars i)<4294967296:=Jxz (n:=32) O;refine ρ ?_;have a2:bits .and .u32 (Qk vl:Int) (Qk (vars i):Int)=((Qk vl &&& Qk (vars i):Nat):Int):=u32_and_nat _ _ af ax;have ae:Qk vl &&& Qk (vars i)<4294967296:=Nat.lt_of_le_of_lt Nat.and_le_left af;rw [a2];clear a2;refine cl (Jrx (hr.ext (J.trans C)) (hv.ext (J.trans C)) ae hvl hrl) ?_;rintro wv w3 ⟨aq,ap⟩;refine ρ ?_;refine Je (fun (k:Nat) (bb:Bool)=>[(1,rv),(2,vv),(3,.pointer (some ⟨b,0,none⟩)),(7,.int .u32 (Qk vl:Int)),(8,.int .i64 (i:Int)),(9,.int .u32 ((Qk vl &&& Qk (vars i):Nat):Int)),(10,wv),(11,.bool bb),(12,.int .i64 (k:Int))])
   (λk bb w'=>k<=(rs i).length/\Ext w3 w'/\bb=((rs i).take k).any (Jwb vars rs vl r i)) (λk _=>(rs i).length-k) 0 false sB ⟨Nat.zero_le _,Ext.refl _,rfl⟩ ?_
  rintro k bb w4 ⟨hk,a5,Z⟩;have o:=ap.trans a5;have a9:=aa.ext o;obtain ⟨TA,tc,rfl,b7,b6,b3,ah,ay⟩:=(b1.ext o).parts;refine ρ ?_;refine ld (a9.at (i:=4) rfl) ?_;refine ρ ?_;refine ix i (a6.ext o) li ?_;refine ρ ?_;refine ld ((a6.ext o).cell ad) ?_;refine ρ ?_;have next:(rs i).any (Jwb vars rs vl r i)=true->(List.range (i+1)).all (λi=>(rs i).any (Jwb vars rs vl r i))=true:=λh=>by
   rw [List.range_succ,List.all_append,a3];simp [h]
  refine ki 42 (λh=>?_) (λh=>?_)
  .have lk:k<(rs i).length:=by have:=oT h;omega
   clear h;refine ρ ?_;refine ci (λh=>?_) (λh=>?_)
   .have a8:bb=false:=by cases bb<;>first|rfl|cases h
    subst a8;obtain ⟨xv,an,ao⟩:=ay k lk;have am:=hP.len i li _ (getD_mem' [] (rs i) lk);have G:Ext w4 w4.drew:=(Ext.refl w4).drew;have U:=o.trans G;refine ρ ?_;refine dr [(0,0),(0,1),(0,2),(0,3),(0,4),(0,5),(0,6),(0,7),(0,8),(0,9),(0,10),(0,11),(0,12),(0,13),(0,15),(1,14),(1,16),(0,17)] kr ?_;have ai:=(a6.ext U);refine ρd ?_;refine dld ((a9.ext G).at (i:=4) rfl) ?_;refine ρd ?_;refine dix i ai li ?_;refine ρd ?_;refine dld (ai.cell ad) ?_;refine ρd ?_;refine dix k (ah.ext G) lk ?_;refine ρd ?_;refine dld ((ah.ext G).cell an) ?_;refine ρd ?_;refine dld ((a9.ext G).at (i:=3) rfl) ?_;refine ρd ?_;refine dix i (a1.ext U) li ?_;refine ρd ?_;refine dld ((a1.ext U).cell ac) ?_;refine ρd ?_;refine dcl (Jrx (ao.ext G) (ag.ext U) ae O am) ?_;rintro pv w5 ⟨av,a4⟩;refine ⟨a4,?_⟩;refine ρd ?_;refine dcl (Jvn av (aq.ext ((a5.trans G).trans a4))) ?_;rintro _ w6 ⟨rfl,ab⟩;refine ⟨ab,?_⟩
    refine ρd ?_;refine ρ ?_;refine Jl (k+1) (Jwb vars rs vl r i ((rs i).getD k [])) sO ⟨lk,((a5.trans G).trans a4).trans ab,?_⟩ om;rw [Qb [] lk,List.any_append,<-Z];simp
   .have a7:bb=true:=by cases bb<;>first|rfl|cases h
    subst a7;refine ρ ?_;refine Qv (i+1) sO ⟨li,C.trans o,next ?_⟩ om;rw [<-List.take_append_drop k (rs i),List.any_append,<-Z];rfl
  .have lk:k=(rs i).length:=by have:=oF h;omega
   clear h;rw [lk,List.take_length]at Z;refine ρ ?_;refine ci (λh=>?_) (λh=>?_)
   .have a8:bb=false:=by cases bb<;>first|rfl|cases h
    refine ρ ?_;refine Jq ⟨?_,(J.trans C).trans o⟩;congr 1
    symm
    refine Bool.eq_false_iff.2 λhc=>?_;have:=List.all_eq_true.1 hc i (List.mem_range.2 li);rw [a8]at Z;exact Bool.false_ne_true (Z.trans this)
   .have a7:bb=true:=by cases bb<;>first|rfl|cases h
    refine ρ ?_;exact Qv (i+1) sO ⟨li,C.trans o,next (by rw [<-Z];exact a7)⟩ om
 .have aw:i=m:=by have:=oF h;omega
  subst aw;refine ρ ?_;exact Jq ⟨congrArg Value.bool a3.symm,J.trans C⟩
end
open Go.RowKit Pl Go.Wk
theorem EVv: ElT Tryz.prog 36 47 3 32 (.agg #[.int .i64 0,.int .i64 0,.string ⟨#[]⟩]):=⟨Tryz.underlying36,info_parts kr,rfl,by decide⟩
theorem Qrz(v:V)(w:World): (Instr.buildSlice 36 1 #[(0,v.val)]).run Tryz.prog w=.ok (.slice (some ⟨w.heap.size,0,none⟩) 1 1) (w.alloc (.cells v.cells.toArray 47)):=kr
theorem Blk.rowV{w:World}{b t:Nat}{v:V}(h:Blk w b t v.cells): RowV w (.slice (some ⟨b,0,none⟩) 1 1) [v]:=⟨some ⟨b,0,none⟩,1,rfl,Nat.le_refl _,by simp,by
 have:=h.rd (n:=1) (sz:=3) rfl;unfold RdR;rw [rowC_one''];exact this⟩
def enI(vars:Nat->List Nat)(rs:Nat->List Row)(v i:Nat): List Row:=(List.range (vars i).length).flatMap λk=>if (vars i).getD k 0=v then (rs i).map λr=>[r.getD k V0] else []
def enD(vars:Nat->List Nat)(rs:Nat->List Row)(v i k:Nat): List Row:=(List.range i).flatMap (enI vars rs v)++(List.range k).flatMap λk=>if (vars i).getD k 0=v then (rs i).map λr=>[r.getD k V0] else []
def Yz(D:List Row): List Row:=D.foldl (Zx []) []
theorem Qfj(D:List Row): IsSet [] D (Yz D):=by
 have:=Jkx (ds:=[]) D (done:=[]) (l:=[]) ⟨List.Pairwise.nil,λx=>Iff.rfl⟩;rwa [List.nil_append]at this
theorem Jsd(D:List Row)(r:Row): Yz (D++[r])=Zx [] (Yz D) r:=by simp [Yz]
theorem Qfk(D:List Row)(r:Row): (Yz (D++[r])).length<=(Yz D).length+1:=by
 rw [Jsd];unfold Zx;split
 .omega
 .have:=Jhl [] (Yz D) r;simp;omega
section
variable {n f:Int} {pA VA RA:Option Addr} {pn pc vc rc N m:Nat} {vars:Nat->List Nat} {rs:Nat->List Row} {w:World}
theorem Qdt(hP:RefP N m vars rs)(hM:RInM w VA RA m vars rs)(v:Nat):
  Ret Tryz.prog 174 [.agg (Vl n f pA pn pc VA vc RA rc m).toArray,.int .i64 (v:Int)] w λu w'=>(RowV w' u (Xk m vars rs v)/\(Xk m vars rs v).length<=10240)/\Ext w w':=by
 have bf:=hP.m32;refine Jz Tryz.func174 Tryz.ntmps174 rfl kr rfl ?_;refine ρ ?_;refine bx (cs:=Vl n f pA pn pc VA vc RA rc m) ?_;intro w1 b a9 hb hB;refine ρ ?_;refine Je (fun (i:Nat) (lv:Value)=>[(1,.int .i64 (v:Int)),(2,.pointer (some ⟨b,0,none⟩)),(5,lv),(6,.int .i64 (i:Int))])
  (λi lv w'=>i<=m/\Ext w1 w'/\RowsV w' lv (Yz ((List.range i).flatMap (enI vars rs v)))/\(Yz ((List.range i).flatMap (enI vars rs v))).length<=320*i) (λi _=>m-i) 0 (.slice none 0 0) sB
  ⟨Nat.zero_le _,Ext.refl _,⟨[],none,0,rfl,rfl,Nat.le_refl _,Nat.zero_le _,Rd.nil,λp hp=>by cases hp⟩,Nat.le_refl _⟩ ?_
 rintro i lv w2 ⟨hi,a8,o,J⟩;have an:=hB.ext a8;refine ρ ?_;refine ld (an.at (i:=3) rfl) ?_;refine ρ ?_;refine ci (λh=>?_) (λh=>?_)
 .have U:i<m:=by have:=oT h;omega
  clear h;have aa:∀ u∈vars i,u<32:=λu hu=>by have:=hP.lt i U u hu;have:=hP.n32;omega
  have ai:=Jwq (hP.asc i U) aa;have bb:=hP.row i U;refine ρ ?_;refine Je (fun (k:Nat) (lv:Value)=>[(1,.int .i64 (v:Int)),(2,.pointer (some ⟨b,0,none⟩)),(5,lv),(6,.int .i64 (i:Int)),(7,.int .i64 (k:Int))])
   (λk lv w'=>k<=(vars i).length/\Ext w2 w'/\RowsV w' lv (Yz (enD vars rs v i k))/\(Yz (enD vars rs v i k)).length<=320*i+10*k) (λk _=>(vars i).length-k) 0 lv sB
   ⟨Nat.zero_le _,Ext.refl _,by unfold enD;simpa using o,by unfold enD;simpa using J⟩ ?_
  clear o J lv;rintro k lv w3 ⟨hk,C,o,J⟩;have Z:=a8.trans C;have ad:=an.ext C;obtain ⟨bc,a4,ar⟩:=(hM.ext (a9.trans Z)).v;obtain ⟨vi,aj,b8⟩:=ar i U;obtain ⟨PA,be,rfl,bj,bh,am⟩:=b8.n;refine ρ ?_;refine ld (ad.at (i:=3) rfl) ?_;refine ρ ?_;refine ix i a4 U ?_;refine ρ ?_;refine ld (a4.cell aj) ?_;refine ρ ?_;refine ci (λh=>?_) (λh=>?_)
  .have lk:k<(vars i).length:=by have:=oT h;omega
   clear h;refine ρ ?_;refine ld (ad.at (i:=3) rfl) ?_;refine ρ ?_;refine ix i a4 U ?_;refine ρ ?_;refine ld (a4.cell aj) ?_;refine ρ ?_;refine ix k am lk ?_;refine ρ ?_;refine ld (am.cell (Xn lk)) ?_;refine ρ ?_;have O:∀ D,enD vars rs v i (k+1)=D->D=enD vars rs v i k++(if (vars i).getD k 0=v then (rs i).map λr=>[r.getD k V0] else []):=λD hD=>by
    rw [<-hD];unfold enD;rw [List.range_succ,List.flatMap_append,List.append_assoc];simp
   have O:=O _ rfl;refine ci (λh=>?_) (λh=>?_)
   .have ay:(vars i).getD k 0≠v:=λe=>by have:=Gn h;omega
    rw [if_neg ay,List.append_nil]at O;refine ρ ?_;refine Jl (k+1) lv sO ⟨lk,C,by rw [O];exact o,by rw [O];omega⟩ om
   .have he:(vars i).getD k 0=v:=by have:=Gr h;omega
    rw [if_pos he]at O;clear h;refine ρ ?_;refine Je (fun (j:Nat) (lv:Value)=>[(1,.int .i64 (v:Int)),(2,.pointer (some ⟨b,0,none⟩)),(5,lv),(6,.int .i64 (i:Int)),(7,.int .i64 (k:Int)),(8,.int .i64 (j:Int))])
     (λj lv w'=>j<=(rs i).length/\Ext w3 w'/\RowsV w' lv (Yz (enD vars rs v i k++((rs i).take j).map λr=>[r.getD k V0]))/\(Yz (enD vars rs v i k++((rs i).take j).map λr=>[r.getD k V0])).length<=320*i+10*k+j) (λj _=>(rs i).length-j) 0 lv sB
     ⟨Nat.zero_le _,Ext.refl _,by simpa using o,by simpa using J⟩ ?_
    clear o J lv;rintro j lv w4 ⟨hj,G,o,J⟩;have ah:=Z.trans G;have a6:=ad.ext G;obtain ⟨bd,a5,aw⟩:=(hM.ext (a9.trans ah)).r;obtain ⟨ri,ak,b9⟩:=aw i U;obtain ⟨TA,tc,rfl,av,au,ao,a2,ac⟩:=b9.parts;refine ρ ?_;refine ld (a6.at (i:=4) rfl) ?_;refine ρ ?_;refine ix i a5 U ?_;refine ρ ?_;refine ld (a5.cell ak) ?_;refine ρ ?_;refine ci (λh=>?_) (λh=>?_)
    .have lj:j<(rs i).length:=by have:=oT h;omega
     clear h;obtain ⟨xv,a7,a3⟩:=ac j lj;have bg:=hP.len i U _ (getD_mem' [] (rs i) lj);obtain ⟨XA,xc,rfl,af,ae,a1⟩:=id a3;refine ρ ?_;refine ld (a6.at (i:=4) rfl) ?_;refine ρ ?_;refine ix i a5 U ?_;refine ρ ?_;refine ld (a5.cell ak) ?_;refine ρ ?_;refine ix j a2 lj ?_;refine ρ ?_;refine ld (a2.cell a7) ?_;refine ρ ?_;refine ixq 3 k a1 om ?_;refine ρ ?_;refine lds (cs:=(((rs i).getD j []).getD k V0).cells) (λq u hu=>RdR.cell a1 om hu) ?_;refine ρ ?_;refine bsl (Jhr _) ?_;intro w5 b5 ag bo ba;refine ρ ?_;refine cl (Jrr (o.ext ag) (Blk.rowV ba) (BoolsV.nil _ none 0) (Qfj _).1 om) ?_;rintro ap w6 ⟨b1,aq,_⟩;have e:enD vars rs v i k++((rs i).take (j+1)).map (λr=>[r.getD k V0])=(enD vars rs v i k++((rs i).take j).map λr=>[r.getD k V0])++[[((rs i).getD j []).getD k V0]]:=by
      rw [Qb [] lj,List.map_append,List.append_assoc];rfl
     have bi:=Qfk (enD vars rs v i k++((rs i).take j).map λr=>[r.getD k V0]) [((rs i).getD j []).getD k V0];refine ρ ?_;refine Jl (j+1) ap sO ⟨lj,(G.trans ag).trans aq,by rw [e,Jsd];exact b1,by rw [e];omega⟩ om
    .have b2:j=(rs i).length:=by have:=oF h;omega
     subst b2;clear h;rw [List.take_length,<-O]at o J;refine ρ ?_;exact Jl (k+1) lv sO ⟨lk,C.trans G,o,om⟩ om
  .have ab:k=(vars i).length:=by have:=oF h;omega
   subst ab;clear h;have e:(List.range (i+1)).flatMap (enI vars rs v)=enD vars rs v i (vars i).length:=by
    unfold enD;rw [List.range_succ,List.flatMap_append];simp [enI]
   refine ρ ?_;refine Jl (i+1) lv sO ⟨U,Z,by rw [e];exact o,by rw [e];omega⟩ om
 .have b3:i=m:=by have:=oF h;omega
  subst b3;clear h;have eR:Yz ((List.range i).flatMap (enI vars rs v))=Uq i vars rs v:=rfl;rw [eR]at o J;obtain ⟨TA,tc,rfl,av,au,ao,a2,ac⟩:=o.parts;refine ρ ?_;refine Je (fun (k:Nat) (vo:Value)=>[(5,.slice TA (Uq i vars rs v).length tc),(9,vo),(10,.int .i64 (k:Int))])
   (λk vo w'=>k<=(Uq i vars rs v).length/\Ext w2 w'/\Zs w' w2.heap.size vo ((Xk i vars rs v).take k)) (λk _=>(Uq i vars rs v).length-k) 0 (.slice none 0 0) sB
   ⟨Nat.zero_le _,Ext.refl _,Xa _ _ _ _⟩ ?_
  have ai:(Xk i vars rs v).length=(Uq i vars rs v).length:=by simp [Xk]
  rintro k vo w3 ⟨hk,C,ho⟩;refine ρ ?_;refine ci (λh=>?_) (λh=>?_)
  .have lk:k<(Uq i vars rs v).length:=by have:=oT h;omega
   clear h;obtain ⟨xv,a7,a3⟩:=ac k lk;obtain ⟨x,hx⟩:=Jcp (getD_mem' [] _ lk);rw [hx]at a3;obtain ⟨XA,xc,rfl,af,ae,a1⟩:=id (a3.ext C);refine ρ ?_;refine ix k (a2.ext C) lk ?_;refine ρ ?_;refine ld ((a2.ext C).cell a7) ?_;refine ρ ?_;refine ixq 3 0 a1 (by simp) ?_;refine ρ ?_;refine lds (cs:=x.cells) (λq u hu=>RdR.cell (r:=[x]) a1 (i:=0) (by simp) hu) ?_;refine ρ ?_;refine bsl (Qrz x) ?_;intro w4 b4 G bp a6;have bn:((Xk i vars rs v).take k).length=k:=by rw [List.length_take];omega
   refine ρ ?_;refine apb (m':=1) (news:=x.cells) EVv (Jk ho G) (a6.rd (n:=1) rfl) (V.one _) (by unfold maxLen;omega) om (C.trans G).size ?_;intro v5 w5 ax b6 bm;have e:(Xk i vars rs v).take (k+1)=(Xk i vars rs v).take k++[x]:=by
    rw [Qb V0 om];congr 2
    have:(Xk i vars rs v).getD k V0=((Uq i vars rs v).getD k []).getD 0 V0:=by
     unfold Xk;simp only [List.getD,List.getElem?_map,List.getElem?_eq_getElem lk,Option.map_some,Option.getD_some]
    rw [this,hx];rfl
   refine ρ ?_;refine Jl (k+1) v5 sO ⟨lk,Qf (C.trans G) b6 (Gm (Jk ho G)),?_⟩ om;rw [Zs,e,List.length_append,rowC_app',rowC_one''];exact ax
  .have ab:k=(Uq i vars rs v).length:=by have:=oF h;omega
   rw [ab,<-ai,List.take_length]at ho;obtain ⟨A3,c3,rfl,b7,_⟩:=Jy ho;refine ρ ?_;exact Jq ⟨⟨⟨A3,c3,rfl,b7,om,Rd.own ho⟩,om⟩,(a9.trans a8).trans C⟩
end
open Go.RowKit Pl Go.Wk
attribute [local irreducible] WM
variable {k s:Nat}
def ansF(m:Nat)(vars:Nat->List Nat)(rs:Nat->List Row)(n f:Nat)(ds:List Bool): List Row:=((Xl m vars rs n).map (List.take f)).foldl (Zx ds) []
theorem Qwb(m:Nat)(vars:Nat->List Nat)(rs:Nat->List Row)(n f:Nat)(ds:List Bool): IsSet ds ((Xl m vars rs n).map (List.take f)) (ansF m vars rs n f ds):=by
 have:=Jkx (ds:=ds) ((Xl m vars rs n).map (List.take f)) (done:=[]) (l:=[]) ⟨List.Pairwise.nil,λx=>Iff.rfl⟩;rwa [List.nil_append]at this
theorem Qfl(ds:List Bool)(l:List Row)(r:Row): (Zx ds l r).length<=l.length+1:=by
 unfold Zx;split
 .omega
 .have:=Jhl ds l r;simp;omega
section
variable {n f:Int} {pA VA RA:Option Addr} {pn pc vc rc N m:Nat} {vars:Nat->List Nat} {rs:Nat->List Row} {w:World}
theorem Jhz(hP:RefP N m vars rs)(hk:k<=N): (Xq m vars rs (List.range N) k).length<=5000:=nL (Qkr hP.asc hP.len hP.cov hk) hP.cnt
def Yx(m:Nat)(vars:Nat->List Nat)(rs:Nat->List Row)(vl:List Nat)(k:Nat)(r:Row)(j:Nat): List Row:=(((Xk m vars rs (vl.getD k 0)).take j).map λx=>r++[x]).filter (Yr m vars rs (vl.take (k+1)))
theorem Qdx(hP:RefP N m vars rs)(hM:RInM w VA RA m vars rs)(hs:s<4294967296)(hbk:bk s 32=List.range N):
  Ret Tryz.prog 156 [.agg (Vl n f pA pn pc VA vc RA rc m).toArray,.int .u32 (s:Int)] w λu w'=>RowsV w' u (Xl m vars rs N)/\Ext w w':=by
 have cz:=hP.m32;have cy:=hP.n32;refine Jz Tryz.func156 Tryz.ntmps156 rfl kr rfl ?_;refine ρ ?_;refine bx (cs:=Vl n f pA pn pc VA vc RA rc m) ?_;intro w1 b a8 hb hB;refine ρ ?_;refine cl (Qdv hs w1) ?_;rintro lv w2 ⟨bq,c7⟩;rw [hbk]at bq;obtain ⟨LA,lc,rfl,cc,cb,bb⟩:=id bq.n;rw [List.length_range]at cc cb bb ⊢;refine ρ ?_;refine bsl Jjs ?_;intro w3 b3 bi d8 da;refine ρ ?_;refine bsl (λw=>Jbp (.slice (some ⟨b3,0,none⟩) 0 0) w _ _ _ rfl) ?_;intro w4 b4 bh d7 cn;have bn:=(c7.trans bi).trans bh;have bm:=bi.trans bh;have h0:RowsV w4 (.slice (some ⟨b4,0,none⟩) 1 1) (Xq m vars rs (List.range N) 0):=⟨[(.slice (some ⟨b3,0,none⟩) 0 0,[])],_,_,rfl,rfl,by simp,by simp,cn.rd (n:=1) rfl,λp hp=>by
  rw [List.mem_singleton.1 hp];exact ⟨_,_,rfl,by simp,by simp,Rd.nil⟩⟩
 refine ρ ?_;refine Je (fun (i:Nat) (ov:Value)=>[(2,.pointer (some ⟨b,0,none⟩)),(5,.slice LA N lc),(6,ov),(7,.int .i64 (i:Int))])
  (λi ov w'=>i<=N/\Ext w4 w'/\RowsV w' ov (Xq m vars rs (List.range N) i)) (λi _=>N-i) 0 (.slice (some ⟨b4,0,none⟩) 1 1) sB ⟨Nat.zero_le _,Ext.refl _,h0⟩ ?_
 clear h0;rintro i ov w5 ⟨hi,b1,b7⟩;have J:=bn.trans b1;have ao:=bm.trans b1;have c0:=hB.ext J;refine ρ ?_;refine ci (λh=>?_) (λh=>?_)
 .have li:i<N:=by have:=oT h;omega
  clear h;have br:=Jhz hP hi;have ag:=Jhz hP (show i+1<=N by omega);have ak:Ext w5 w5.drew:=(Ext.refl w5).drew;have bw:=bb.ext (ao.trans ak);have ba:(Jt (nz (List.range N)))[i]?=some (.int .i64 (i:Int)):=by
   have:=Xn (cs:=List.range N) (show i<(List.range N).length by simpa using li);rwa [Ie li]at this
  refine ρ ?_;refine dr [(0,0),(0,1),(0,2),(0,3),(0,4),(1,5),(0,6)] kr ?_;refine ρd ?_;refine Qw (cs:=Vl n f pA pn pc VA vc RA rc m) (λj u hu=>(c0.ext ak).at hu) ?_;refine ρd ?_;refine dix i bw li ?_;refine ρd ?_;refine dld (bw.cell ba) ?_;refine ρd ?_;refine dcl (Qdt hP (hM.ext (a8.trans (J.trans ak))) i) ?_;rintro xv w6 ⟨⟨c6,d1⟩,a4⟩;refine ⟨a4,?_⟩;have a6:=ak.trans a4;obtain ⟨OA,oc,rfl,d5,d4,cx,cm,ck⟩:=id (b7.ext a6).parts;obtain ⟨XA,xc,rfl,d2,d0,cj⟩:=id c6;refine ρd ?_;refine ρ ?_;refine Je (fun (k:Nat) (nv:Value)=>[(2,.pointer (some ⟨b,0,none⟩)),(5,.slice LA N lc),(6,.slice OA (Xq m vars rs (List.range N) i).length oc),(7,.int .i64 (i:Int)),(8,nv),(9,.slice XA (Xk m vars rs i).length xc),(10,.int .i64 (k:Int))])
   (λk nv w'=>k<=(Xq m vars rs (List.range N) i).length/\Ext w6 w'/\OwnR w' w6.heap.size nv (((Xq m vars rs (List.range N) i).take k).flatMap λr=>Yx m vars rs (List.range N) i r (Xk m vars rs i).length)) (λk _=>(Xq m vars rs (List.range N) i).length-k) 0 (.slice none 0 0) sB
   ⟨Nat.zero_le _,Ext.refl _,OwnR.nil _ _⟩ ?_
  rintro k nv w7 ⟨O,C,a1⟩;refine ρ ?_;refine ci (λh=>?_) (λh=>?_)
  .have lk:k<(Xq m vars rs (List.range N) i).length:=by have:=oT h;omega
   clear h;obtain ⟨r,hr⟩:∃ r,r=(Xq m vars rs (List.range N) i).getD k []:=⟨_,rfl⟩;have d3:r.length=i:=((Jbt hP.asc hP.len hP.cov i hi r).1 (by rw [hr];exact getD_mem' [] _ lk)).1;obtain ⟨yv,c5,be⟩:=ck k lk;rw [<-hr]at be;obtain ⟨YA,yc,rfl,cr,cq,ch⟩:=id be;have b5:Ip m vars rs (List.range N) i (Xq m vars rs (List.range N) i)=(Xq m vars rs (List.range N) i).flatMap λr=>Yx m vars rs (List.range N) i r (Xk m vars rs i).length:=by
    unfold Ip Yx;rw [Ie li,List.take_length]
   have hpre:∀ j,j<=(Xk m vars rs i).length->(((Xq m vars rs (List.range N) i).take k).flatMap (λr=>Yx m vars rs (List.range N) i r (Xk m vars rs i).length)++Yx m vars rs (List.range N) i r j).length<=5000:=λj hj=>by
    refine nL ?_ ag;rw [Xq,b5];conv=>rhs;rw [<-List.take_append_drop k (Xq m vars rs (List.range N) i),List.flatMap_append,List.length_append]
    rw [List.length_append];refine Nat.add_le_add_left ?_ _;have hd:(Xq m vars rs (List.range N) i).drop k=r::(Xq m vars rs (List.range N) i).drop (k+1):=by
     rw [hr];simp [List.getD,List.getElem?_eq_getElem lk]
    rw [hd,List.flatMap_cons,List.length_append];refine nL ?_ (Nat.le_add_right _ _);unfold Yx;refine List.Sublist.length_le (List.Sublist.filter _ (List.Sublist.map _ ?_));rw [Ie li,List.take_length];exact List.take_sublist _ _
   refine ρ ?_;refine Je (fun (j:Nat) (nv:Value)=>[(2,.pointer (some ⟨b,0,none⟩)),(5,.slice LA N lc),(6,.slice OA (Xq m vars rs (List.range N) i).length oc),(7,.int .i64 (i:Int)),(8,nv),(9,.slice XA (Xk m vars rs i).length xc),(10,.int .i64 (k:Int)),(11,.int .i64 (j:Int))])
    (λj nv w'=>j<=(Xk m vars rs i).length/\Ext w6 w'/\OwnR w' w6.heap.size nv (((Xq m vars rs (List.range N) i).take k).flatMap (λr=>Yx m vars rs (List.range N) i r (Xk m vars rs i).length)++Yx m vars rs (List.range N) i r j)) (λj _=>(Xk m vars rs i).length-j) 0 nv sB
    ⟨Nat.zero_le _,C,by simpa [Yx] using a1⟩ ?_
   clear a1 nv C w7;rintro j nv w7 ⟨hj,C,a1⟩;refine ρ ?_;refine ci (λh=>?_) (λh=>?_)
   .have lj:j<(Xk m vars rs i).length:=by have:=oT h;omega
    clear h;obtain ⟨x,hx⟩:∃ x,x=(Xk m vars rs i).getD j V0:=⟨_,rfl⟩;have bo:Yx m vars rs (List.range N) i r (j+1)=Yx m vars rs (List.range N) i r j++if Yr m vars rs ((List.range N).take (i+1)) (r++[x])=true then [r++[x]] else []:=by
     unfold Yx;rw [Ie li,Qb V0 lj,List.map_append,List.filter_append,<-hx];congr 1
     by_cases hf:Yr m vars rs ((List.range N).take (i+1)) (r++[x])=true
     .rw [if_pos hf];exact List.filter_cons_of_pos hf
     .rw [if_neg hf];exact List.filter_cons_of_neg hf
    have ay:Ext w7 w7.drew:=(Ext.refl w7).drew;have a5:=C.trans ay;have ai:=Rd.ext ch a5;have au:=Rd.ext cj a5;have av:=cm.ext a5;have xt:∀ {W:World},GrN (λk=>w7.drew.heap.size<=k) w7.drew W->Ext w7.drew W:=λh=>h.old (Ext.refl _) λk O=>O;refine ρ ?_;refine drM (λk=>w7.drew.heap.size<=k) ?_;refine Uy (fuel':=5) [(0,1),(0,2),(0,3),(0,4),(0,6),(0,7),(0,8),(0,9)] #[false,true,true,true,true,false,true,true,true,true,false,false,false] kr kr rfl ?_;refine ρn ?_;refine nix k av lk ?_;refine ρn ?_;refine nld (λw' hg=>(av.ext (xt hg)).cell c5) ?_;refine ρn ?_;refine Yk 3 j au om ?_;refine ρn ?_;refine Qe (cs:=x.cells) (λw' hg q u hu=>RdR.cell (Rd.ext au (xt hg)) lj (by rw [<-hx];exact hu)) ?_;refine ρn ?_;refine Ub ?_;refine mcut 2 (lst 13 11) (fun (q:Value×Nat)=>[(46,q.1),(51,.slice (some ⟨q.2,0,none⟩) 1 1),(2,.pointer (some ⟨b,0,none⟩)),(5,.slice LA N lc),(6,.slice OA (Xq m vars rs (List.range N) i).length oc),(7,.int .i64 (i:Int)),(8,nv),(9,.slice XA (Xk m vars rs i).length xc),(10,.int .i64 (k:Int)),(11,.int .i64 (j:Int))])
     (λq W=>Ext w7.drew W/\W.ownsRow w7.drew.heap.size 47 3 q.1 r.length (Jm r)/\Blk W q.2 47 x.cells) ?_ ?_
    .rintro ⟨a7,aa⟩ W ⟨bf,b8,bz⟩;simp only at b8 bz;refine Vr 11 kr rfl rfl ?_;refine apb (m':=1) (news:=x.cells) EV b8 (bz.rd (n:=1) rfl) (V.one _) (by unfold maxLen;omega) om bf.size ?_;intro cw W2 a9 b9 ca;obtain ⟨_,_,rfl,_,bt⟩:=Jy b8;have U:GrN (λk=>w7.drew.heap.size<=k) W W2:=GrN.by b9 λk O=>(bt k O).1
     have bj:=U.old bf λk O=>O;refine Jg (Xg U ?_);refine Uy (fuel':=0) [(0,12)] (lst 13 13) kr kr rfl ?_;refine ρn ?_;refine Ub ?_;refine mend kr ?_;have co:Jm r++x.cells=Jm (r++[x]):=by rw [rowC_app',rowC_one'']
     have c4:r.length+1=(r++[x]).length:=by simp
     rw [co,c4]at a9;obtain ⟨bd,bc,rfl,bu,bs⟩:=Jy a9;have c2:RowX W2 (own w6.heap.size nv) (.slice bd (r++[x]).length bc) (r++[x]):=by
      refine ⟨bd,bc,rfl,bu,by simp;omega,Rd.own a9,λ_ ad e O=>?_⟩;have h1:=(bs ad.block (by rw [e];simp [Value.ownBlock])).1;have h2:=a5.size;rcases O with O|O
      .omega
      .have:=(a1.lt _ O).2;have:=ay.size;omega
     have ax:Ext W2 W2.drew:=(Ext.refl W2).drew;have am:=(ay.trans bj).trans ax;have an:=C.trans am;have ap:=J.trans (a6.trans an);have b2:=ao.trans (a6.trans an);have c8:IntsV W2.drew (.slice LA (i+1) lc) (nz ((List.range N).take (i+1))):=by
      have hl:((List.range N).take (i+1)).length=i+1:=by rw [List.length_take,List.length_range];omega
      refine ⟨LA,lc,by rw [Qq,hl],by rw [Qq,hl];omega,by rw [Qq,hl];omega,?_⟩;have:=(bb.ext b2).take (m:=i+1) om;rw [Qq,hl];have e:(Jt (nz (List.range N))).take ((i+1)*1)=Jt (nz ((List.range N).take (i+1))):=by rw [Nat.mul_one];simp only [Jt,nz,List.map_take]
      rw [e]at this;exact this
     refine ρ ?_;refine drN (λ_=>False) 10 [(0,0),(0,1),(0,2),(0,3),(0,4),(0,5),(1,6)] kr ?_;refine ρn ?_;refine Qe (cs:=Vl n f pA pn pc VA vc RA rc m) (λw' hg j u hu=>((hB.ext ap).ext hg.toExt).at hu) ?_;refine ρn ?_;refine nslh (A:=LA) (m:=N) (c:=lc) (i+1) ?_ om;refine ρn ?_;refine nop ?_;refine cl (Jsb hP (hM.ext (a8.trans ap)) c8 (c2.v.ext ax) (λu hu=>by have:=List.mem_range.1 (List.mem_of_mem_take hu);omega) (by simp;omega)) ?_;rintro _ W3 ⟨rfl,ae⟩;refine ρ ?_;refine Jb (GrN.ext ae) ?_;refine ρn ?_;have a3:=am.trans ae;have aq:=a1.ext a3;refine ρ ?_;refine ci (λhf=>?_) (λhf=>?_)
     .refine ρ ?_;refine bsl (λw=>Jbp (.slice bd (r++[x]).length bc) w _ _ _ rfl) ?_;intro W4 db ac cv c1;refine ρ ?_;refine appR (a:=w6) (C.trans (a3.trans ac)) ER (aq.ext ac) c1 ((((c2.ext ax).ext ae)).ext ac) (by have:=hpre j om;omega) ?_;intro c3 W5 bp bg _;refine ρ ?_;refine Jl (j+1) c3 sO ⟨lj,bg,?_⟩ om;rw [bo,if_pos hf,<-List.append_assoc];exact bp
     .refine ρ ?_;refine Jl (j+1) nv sO ⟨lj,C.trans a3,?_⟩ om;rw [bo,if_neg (by rw [hf];simp),List.append_nil];exact aq
    .intro rest;have ab:∀ {W:World} {g:Nat},Blk W g 47 ([]:List Value)->w7.drew.heap.size<=g->W.ownsRow w7.drew.heap.size 47 3 (.slice (some ⟨g,0,none⟩) 0 0) 0 []:=λhB hb=>hB.own (n:=0) hb rfl (Nat.zero_le _);refine Jxk 0 10 kr rfl rfl rfl ?_ ?_
     .refine ρ ?_;refine bsl Jjs ?_;intro W1 b0 o a2 aj;refine Jg (Xg (GrN.ext o) ?_);refine Jxk 5 10 kr rfl rfl rfl ?_ ?_
      .refine apb (m':=r.length) (news:=Jm r) EV (ab aj a2) (ai.ext o) (Jvq r) (by unfold maxLen;omega) om o.size ?_;intro a7 W2 a9 b9 ca;rw [Nat.zero_add,List.nil_append]at a9;have U:GrN (λk=>w7.drew.heap.size<=k) W1 W2:=GrN.by b9 λk O=>by simp [Value.ownBlock]at O;omega
       refine Jg (Xg U ?_);refine Vr 10 kr rfl rfl ?_;refine bsl (Jwm x) ?_;intro W3 aa aw ar Z;refine Jg (Xg (GrN.ext aw) ?_);refine Gs (listed':=lst 13 11) kr ?_;exact rest (a7,aa) _ _ ⟨(U.old o λk O=>O).trans aw,Jk a9 aw,Z⟩ sB
      .refine ρ ?_;refine bsl (Jwm x) ?_;intro W2 aa G ar Z;refine Jg (Xg (GrN.ext G) ?_);refine Vr 5 kr rfl rfl ?_;refine apb (m':=r.length) (news:=Jm r) EV (ab (aj.ext G) a2) (ai.ext (o.trans G)) (Jvq r) (by unfold maxLen;omega) om (o.trans G).size ?_;intro a7 W3 af ah c9;rw [Nat.zero_add,List.nil_append]at af;have U:GrN (λk=>w7.drew.heap.size<=k) W2 W3:=GrN.by ah λk O=>by simp [Value.ownBlock]at O;omega
       refine Jg (Xg U ?_);refine Gs (listed':=lst 13 11) kr ?_;refine rest (a7,aa) _ _ ⟨U.old (o.trans G) λk O=>O,af,Z.grown ah ?_⟩ sB;have:=aj.lt;simp [Value.ownBlock];omega
     .refine ρ ?_;refine bsl (Jwm x) ?_;intro W1 aa o ar Z;refine Jg (Xg (GrN.ext o) ?_);refine Vr 0 kr rfl rfl ?_;refine bsl Jjs ?_;intro W2 b0 G a2 aj;refine Jg (Xg (GrN.ext G) ?_);refine Vr 5 kr rfl rfl ?_;have bv:=nL o.size a2;refine apb (m':=r.length) (news:=Jm r) EV (ab aj bv) (ai.ext (o.trans G)) (Jvq r) (by unfold maxLen;omega) om (o.trans G).size ?_;intro a7 W3 af ah c9;rw [Nat.zero_add,List.nil_append]at af;have U:GrN (λk=>w7.drew.heap.size<=k) W2 W3:=GrN.by ah λk O=>by simp [Value.ownBlock]at O;omega
      refine Jg (Xg U ?_);refine Gs (listed':=lst 13 11) kr ?_;refine rest (a7,aa) _ _ ⟨U.old (o.trans G) λk O=>O,af,(Z.ext G).grown ah ?_⟩ sB;have:=Z.lt;simp [Value.ownBlock];omega
   .have ce:j=(Xk m vars rs i).length:=by have:=oF h;omega
    subst ce;clear h;refine ρ ?_;refine Jl (k+1) nv sO ⟨lk,C,?_⟩ om;rw [Qb [] lk,List.flatMap_append,<-hr];simpa using a1
  .have cd:k=(Xq m vars rs (List.range N) i).length:=by have:=oF h;omega
   subst cd;clear h;rw [List.take_length]at a1;refine ρ ?_;refine Jl (i+1) nv sO ⟨li,(b1.trans a6).trans C,?_⟩ om;have e:Xq m vars rs (List.range N) (i+1)=(Xq m vars rs (List.range N) i).flatMap λr=>Yx m vars rs (List.range N) i r (Xk m vars rs i).length:=by
    rw [Xq];unfold Ip Yx;rw [Ie li,List.take_length]
   rw [e]at ag ⊢;exact a1.rows om
 .have cg:i=N:=by have:=oF h;omega
  subst cg;clear h;have br:=Jhz hP (Nat.le_refl i);refine ρ ?_;refine ki 68 (λh=>?_) (λh=>?_)
  .have h0:i=0:=by have:=Xd h;omega
   clear h;refine ρ ?_;refine lds (cs:=Vl n f pA pn pc VA vc RA rc m) (λj u hu=>c0.at hu) ?_;refine ρ ?_;refine bsl Jjs ?_;intro w6 b6 a4 d6 d9;refine ρ ?_;refine cl (Jsb (vl:=[]) (r:=[]) hP (hM.ext (a8.trans (J.trans a4))) ⟨none,0,rfl,Nat.le_refl _,Nat.zero_le _,Rd.nil⟩ ⟨some ⟨b6,0,none⟩,0,rfl,Nat.le_refl _,Nat.zero_le _,Rd.nil⟩ (λu hu=>by cases hu) rfl) ?_;rintro _ w7 ⟨rfl,C⟩;refine ρ ?_;subst h0;refine ci (λhf=>?_) (λhf=>?_)
   .have a2:Yr m vars rs [] []=false:=by cases hh:Yr m vars rs [] []<;>first|rfl|(rw [hh]at hf;cases hf)
    refine ρ ?_;refine Jq ⟨?_,(a8.trans J).trans (a4.trans C)⟩;unfold Xl;rw [if_pos rfl,a2];exact ⟨[],none,0,rfl,rfl,Nat.le_refl _,Nat.zero_le _,Rd.nil,λp hp=>by cases hp⟩
   .have a2:Yr m vars rs [] []=true:=by cases hh:Yr m vars rs [] []<;>first|rfl|(rw [hh]at hf;cases hf)
    refine ρ ?_;refine Jq ⟨?_,(a8.trans J).trans (a4.trans C)⟩;unfold Xl;rw [if_pos rfl,if_pos a2];exact b7.ext (a4.trans C)
  .have h0:i≠0:=λe=>by have:=Xf h;omega
   clear h;refine ρ ?_;refine Jq ⟨?_,a8.trans J⟩;unfold Xl;rw [if_neg h0];exact b7
end
open Go.RowKit Pl Go.Wk
variable {F N m:Nat}
theorem Qtl(hN:N<=32): bk (2^N-1) 32=List.range N:=by
 have key:∀ k,bk (2^N-1) k=List.range (min k N):=by
  intro k;induction k with
  | zero=>rfl
  | succ k ih=>
   rw [Um,ih,Nat.testBit_two_pow_sub_one];by_cases h:k<N
   .rw [if_pos (by simpa using h),Nat.min_eq_left om,Nat.min_eq_left om,List.range_succ]
   .rw [if_neg (by simpa using h),Nat.min_eq_right om,Nat.min_eq_right om,List.append_nil]
 rw [key,Nat.min_eq_right hN]
theorem Qlw{vars:Nat->List Nat}{rs:Nat->List Row}(hP:RefP N m vars rs){z:Row}(hz:z∈Xl m vars rs N): z.length=N:=((Jgh hP.asc hP.len hP.lt hP.cov z).1 hz).1
section
variable {pA VA RA:Option Addr} {pn pc vc rc N m:Nat} {f:Int} {vars:Nat->List Nat} {rs:Nat->List Row} {w:World}
theorem Qdw(hP:RefP N m vars rs)(hM:RInM w VA RA m vars rs)(hN:N<=31):
  Ret Tryz.prog 106 [.agg (Vl (N:Int) f pA pn pc VA vc RA rc m).toArray] w λu w'=>RowsV w' u (Xl m vars rs N)/\Ext w w':=by
 refine Jz Tryz.func106 Tryz.ntmps106 rfl kr rfl ?_;refine ρ ?_;refine bx (cs:=Vl (N:Int) f pA pn pc VA vc RA rc m) ?_;intro U b o Z J;refine ρ ?_;refine lds (cs:=Vl (N:Int) f pA pn pc VA vc RA rc m) (λj u G=>J.at G) ?_;refine ρ ?_;refine ld (J.at (i:=0) rfl) ?_;refine ρ ?_;refine Go.Wk.kv 6 (congrArg (λz=>Value.int .u64 z) (Ut (z:=(N:Int)) om)) ?_;refine Jph (v:=N) om ?_;refine ρ ?_;have h1:1<=2^N:=Nat.pow_pos (by decide);have h2:=Gl (show N<32 by omega);have e:IntKind.u32.wrap (((2^N:Nat):Int)-1)=((2^N-1:Nat):Int):=by rw [IntKind.wrap_u32];omega
 refine Go.Wk.kv 8 (congrArg (λz=>Value.int .u32 z) e) ?_;refine cl (Qdx hP (hM.ext o) om (Qtl om)) ?_;rintro u O ⟨G,C⟩;refine ρ ?_;exact Jq ⟨G,o.trans C⟩
theorem Qdz{ds:List Bool}{dv:Value}(hP:RefP N m vars rs)(hM:RInM w VA RA m vars rs)(hN:N<=31)(hF:F<=N)(hd:BoolsV w dv ds):
  Ret Tryz.prog 60 [.agg (Vl (N:Int) (F:Int) pA pn pc VA vc RA rc m).toArray,dv] w λu w'=>RowsV w' u (ansF m vars rs N F ds)/\Ext w w'/\Fresh w u:=by
 have an:(Xl m vars rs N).length<=5000:=nL (Qjk hP.asc hP.len hP.cov) hP.cnt;refine Jz Tryz.func60 Tryz.ntmps60 rfl kr rfl ?_;refine ρ ?_;refine bx (cs:=Vl (N:Int) (F:Int) pA pn pc VA vc RA rc m) ?_;intro w1 b J hb hB;refine ρ ?_;refine lds (cs:=Vl (N:Int) (F:Int) pA pn pc VA vc RA rc m) (λj u hu=>hB.at hu) ?_;refine ρ ?_;refine cl (Qdw hP (hM.ext J) hN) ?_;rintro jv w2 ⟨hj,a3⟩;obtain ⟨JA,jc,rfl,ao,am,ai,ac,ab⟩:=hj.parts;refine ρ ?_;refine Je (fun (i:Nat) (Z:Value)=>[(1,dv),(2,.pointer (some ⟨b,0,none⟩)),(5,Z),(6,.slice JA (Xl m vars rs N).length jc),(7,.int .i64 (i:Int))])
  (λi Z w'=>i<=(Xl m vars rs N).length/\Ext w2 w'/\Fresh w2 Z/\RowsV w' Z ((((Xl m vars rs N).take i).map (List.take F)).foldl (Zx ds) [])/\((((Xl m vars rs N).take i).map (List.take F)).foldl (Zx ds) []).length<=i) (λi _=>(Xl m vars rs N).length-i) 0 (.slice none 0 0) sB
  ⟨Nat.zero_le _,Ext.refl _,(λad n c e=>by cases e),⟨[],none,0,rfl,rfl,Nat.le_refl _,Nat.zero_le _,Rd.nil,λp hp=>by cases hp⟩,Nat.le_refl _⟩ ?_
 rintro i Z w3 ⟨hi,C,O,U,ak⟩;have G:=a3.trans C;refine ρ ?_;refine ci (λh=>?_) (λh=>?_)
 .have li:i<(Xl m vars rs N).length:=by have:=oT h;omega
  clear h;obtain ⟨xv,a7,a1⟩:=ab i li;obtain ⟨z,hz⟩:∃ z,z=(Xl m vars rs N).getD i []:=⟨_,rfl⟩;have aj:z.length=N:=Qlw hP (by rw [hz];exact getD_mem' [] _ li);rw [<-hz]at a1;obtain ⟨XA,xc,rfl,ah,ag,aa⟩:=id a1;have o:Ext w3 w3.drew:=(Ext.refl w3).drew;have a4:=Jkx (ds:=ds) (((Xl m vars rs N).take i).map (List.take F)) (done:=[]) (l:=[]) ⟨List.Pairwise.nil,λx=>Iff.rfl⟩;refine ρ ?_;refine drN (λ_=>False) 10 [(0,0),(0,1),(0,2),(0,3),(0,4),(0,5),(0,6),(0,7),(0,8),(1,9),(0,10)] kr ?_;have a5:=ac.ext (C.trans o);have ae:=(hB.ext G).ext o;refine ρn ?_;refine nix i a5 li ?_;refine ρn ?_;refine nld (λw' hg=>(a5.ext hg.toExt).cell a7) ?_;refine ρn ?_;refine nld (Jp (ae.at (i:=1) rfl) (λe=>e)) ?_;refine ρn ?_;refine nslh (A:=XA) (m:=z.length) (c:=xc) F ?_ om;refine ρn ?_;refine nop ?_;have a8:RowV w3.drew (.slice XA F xc) (z.take F):=by
   have hl:(z.take F).length=F:=by rw [List.length_take];omega
   refine ⟨XA,xc,by rw [hl],by rw [hl];omega,by rw [hl];omega,?_⟩;have:=(Rd.ext aa (C.trans o)).take (m:=F) om;rw [Jds z om]at this;unfold RdR;rw [hl];exact this
  refine cl (Jrr (U.ext o) a8 (hd.ext ((J.trans G).trans o)) a4.1 om) ?_;rintro a6 w4 ⟨h4,a2,af⟩;refine ρ ?_;refine Jb (GrN.ext a2) ?_;refine ρn ?_;have e:(((Xl m vars rs N).take (i+1)).map (List.take F)).foldl (Zx ds) []=Zx ds ((((Xl m vars rs N).take i).map (List.take F)).foldl (Zx ds) []) (z.take F):=by
   rw [Qb [] li,<-hz,List.map_append,List.foldl_append];rfl
  refine ρ ?_;refine Jl (i+1) a6 sO ⟨li,(C.trans o).trans a2,?_,by rw [e];exact h4,?_⟩ om
  .rcases af with h'|h'
   .rw [h'];exact O
   .exact λad n c e=>nL (C.trans o).size (h' ad n c e)
  rw [e];have:=Qfl ds ((((Xl m vars rs N).take i).map (List.take F)).foldl (Zx ds) []) (z.take F);omega
 .have a9:i=(Xl m vars rs N).length:=by have:=oF h;omega
  rw [a9,List.take_length]at U;refine ρ ?_;exact Jq ⟨U,J.trans G,λad n c e=>nL (J.trans a3).size (O ad n c e)⟩
end
open Go.RowKit Pl Go.Wk
def IntssV(w:World)(v:Value)(zss:List (List Int)): Prop:=∃ A c cs,v=.slice A zss.length c/\zss.length<=c/\zss.length<=1100000/\Rd w 1 A zss.length cs/\∀ i,i<zss.length->∃ u,cs[i]?=some u/\IntsV w u (zss.getD i [])
def RowssV(w:World)(v:Value)(rss:List (List Row)): Prop:=∃ A c cs,v=.slice A rss.length c/\rss.length<=c/\rss.length<=1100000/\Rd w 1 A rss.length cs/\∀ i,i<rss.length->∃ u,cs[i]?=some u/\RowsV w u (rss.getD i [])
theorem IntssV.ext{w w':World}{v:Value}{zss:List (List Int)}(h:IntssV w v zss)(hx:Ext w w'): IntssV w' v zss:=by
 obtain ⟨A,c,cs,U,O,J,G,C⟩:=h;exact ⟨A,c,cs,U,O,J,G.ext hx,λi hi=>by obtain ⟨u,e,o⟩:=C i hi;exact ⟨u,e,o.ext hx⟩⟩
theorem RowssV.ext{w w':World}{v:Value}{zss:List (List Row)}(h:RowssV w v zss)(hx:Ext w w'): RowssV w' v zss:=by
 obtain ⟨A,c,cs,U,O,J,G,C⟩:=h;exact ⟨A,c,cs,U,O,J,G.ext hx,λi hi=>by obtain ⟨u,e,o⟩:=C i hi;exact ⟨u,e,o.ext hx⟩⟩
structure Cse where
 n: Int
 f:Int
 ds:List Bool
 pm:List Int
 vs:List (List Int)
 rss:List (List Row)
def CseV(w:World)(cs:List Value)(c:Cse): Prop:=∃ dA dc pA pc vA vc rA rc,cs=[.int .i64 c.n,.int .i64 c.f,.slice dA c.ds.length dc,.slice pA c.pm.length pc,.slice vA c.vs.length vc,.slice rA c.rss.length rc] /\
 BoolsV w (.slice dA c.ds.length dc) c.ds/\IntsV w (.slice pA c.pm.length pc) c.pm/\IntssV w (.slice vA c.vs.length vc) c.vs/\RowssV w (.slice rA c.rss.length rc) c.rss/\(-9223372036854775808<=c.n/\c.n<=9223372036854775807)/\(-9223372036854775808<=c.f/\c.f<=9223372036854775807)
theorem CseV.ext{w w':World}{cs:List Value}{c:Cse}(h:CseV w cs c)(hx:Ext w w'): CseV w' cs c:=by
 obtain ⟨dA,dc,pA,pc,o,vc,u,rc,Z,U,O,J,G,C⟩:=h;exact ⟨dA,dc,pA,pc,o,vc,u,rc,Z,U.ext hx,O.ext hx,J.ext hx,G.ext hx,C⟩
structure FewP(c:Cse): Prop where
 row:∀ i,i<c.rss.length->(c.rss.getD i []).length<=10
 cnt:(Jd c.rss.length λi=>max 1 (c.rss.getD i []).length)<=5000
 n6:c.n<=6∨32<c.n
 v5:c.vs.length<=5
 r5:c.rss.length<=5
structure FewS(c:Cse): Prop where
 row:∀ i,i<c.rss.length->(c.rss.getD i []).length<=10
 cnt:(Jd c.rss.length λi=>max 1 (c.rss.getD i []).length)<=5000
 n6:c.n<=6
 v5:c.vs.length<=5
 r5:c.rss.length<=5
 v8:∀ i,i<c.vs.length->(c.vs.getD i []).length<=8
 d10:c.ds.length<=10
 p10:c.pm.length<=10
theorem Qnp{w:World}{cs:List Value}{c:Cse}(h:CseV w cs c): Ret Tryz.prog 59 [.agg cs.toArray] w λu w'=>Ext w w'/\∃ b:Bool,u=.bool b/\(b=true->FewP c)/\(FewS c->b=true):=by
 obtain ⟨dA,dc,pA,pc,vA,vc,rA,rc,rfl,hD,hP,hV,hR,hn,hf⟩:=h;obtain ⟨_,_,af,e1,_,_,a2,ad⟩:=id hR;injection e1 with e1 e2 e3
 subst e1;subst e3;obtain ⟨_,_,ae,e1,_,_,a6,ac⟩:=id hV;injection e1 with e1 e2 e3
 subst e1;subst e3;refine Jz Tryz.func59 Tryz.ntmps59 rfl kr rfl ?_;refine ρ ?_;refine bx ?_;intro w1 b C hb O;refine ρ ?_;refine Je (fun (i:Nat) (o:Nat)=>[(1,.pointer (some ⟨b,0,none⟩)),(2,.bool false),(3,.int .i64 (o:Int)),(4,.int .i64 (i:Int))])
  (λi o w'=>i<=6/\i<=c.rss.length/\w'=w1/\o=(Jd i λi=>max 1 (c.rss.getD i []).length)/\o<=10^i/\∀ j,j<i->(c.rss.getD j []).length<=10) (λi _=>6-i) 0 1 sB ⟨om,Nat.zero_le _,rfl,rfl,by simp,λj hj=>om⟩ ?_
 rintro i o w2 ⟨h6,hi,rfl,J,a3,U⟩;refine ρ ?_;refine ld (O.at (i:=5) rfl) ?_;refine ρ ?_;refine Vg (fun (t:Bool)=>[(14,.bool t),(1,.pointer (some ⟨b,0,none⟩)),(2,.bool false),(3,.int .i64 (o:Int)),(4,.int .i64 (i:Int))]) (λt w3=>w3=w2/\(t=true↔i<c.rss.length/\i<6)) ?_ ?_
 .refine ki 11 (λh=>?_) (λh=>?_)
  .have:=oT h;refine ρ ?_;refine Jf (decide ((i:Int)<6)) sB ⟨rfl,?_⟩;rw [decide_eq_true_eq];omega
  .have:=oF h;refine ρ ?_;refine Jf false sB ⟨rfl,?_⟩;constructor
   .intro h;cases h
   .omega
 rintro t w3 ⟨rfl,ht⟩;refine ρ ?_;refine ci (λh=>?_) (λh=>?_)
 .obtain ⟨li,l6⟩:=ht.1 h;clear h;obtain ⟨ru,a5,aa⟩:=ad i li;obtain ⟨TA,tc,rfl,_,_,_⟩:=id (aa.ext C).parts;refine ρ ?_;refine ld (O.at (i:=5) rfl) ?_;refine ρ ?_;refine ix i (a2.ext C) li ?_;refine ρ ?_;refine ld ((a2.ext C).cell a5) ?_;refine ρ ?_;refine ci (λh=>?_) (λh=>?_)
  .refine ρ ?_;exact Jq ⟨C,false,rfl,λh=>(by cases h),λG=>by have h1:=G.row i li;have h2:=oT h;exact False.elim om⟩
  .have a7:(c.rss.getD i []).length<=10:=by have:=oF h;omega
   clear h;refine ρ ?_;refine ld (O.at (i:=5) rfl) ?_;refine ρ ?_;refine ix i (a2.ext C) li ?_;refine ρ ?_;refine ld ((a2.ext C).cell a5) ?_;refine ρ ?_;have ab:(if (1:Int)<((c.rss.getD i []).length:Int) then ((c.rss.getD i []).length:Int) else 1)=((max 1 (c.rss.getD i []).length:Nat):Int):=by
    split<;>omega
   have a4:o<=100000:=nL a3 (Nat.pow_le_pow_right (by decide) (show i<=5 by omega));have ag:o*max 1 (c.rss.getD i []).length<=o*10:=Nat.mul_le_mul_left _ om;have e:IntKind.i64.wrap ((o:Int)*(if (1:Int)<((c.rss.getD i []).length:Int) then ((c.rss.getD i []).length:Int) else 1))=((o*max 1 (c.rss.getD i []).length:Nat):Int):=by
    rw [ab,<-Int.natCast_mul];exact Ga om
   rw [e];refine Jl (i+1) (o*max 1 (c.rss.getD i []).length) sO ⟨om,om,rfl,?_,?_,λj hj=>?_⟩ om
   .rw [Jd,<-J]
   .rw [Nat.pow_succ];exact Nat.mul_le_mul a3 om
   .by_cases e:j=i
    .rw [e];exact a7
    .exact U j om
 have ah:¬ (i<c.rss.length/\i<6):=λh'=>by have:=ht.2 h';rw [h]at this;cases this
 clear h ht;refine ρ ?_;refine ci (λh=>?_) (λh=>?_)
 .refine ρ ?_;exact Jq ⟨C,false,rfl,λh=>(by cases h),λG=>by
   have h1:=G.cnt;have h2:=G.r5;have h3:=oT h;have h4:i=c.rss.length:=om
   rw [<-h4,<-J]at h1;exact False.elim om⟩
 have a4:o<=5000:=by have:=oF h;omega
 clear h;refine ρ ?_;refine Qh (fun (k:Nat)=>[(1,.pointer (some ⟨b,0,none⟩)),(2,.bool false),(5,.int .i64 (k:Int))])
  (λk w'=>k<=6/\k<=c.vs.length/\w'=w3) (λk=>6-k) 0 sB ⟨om,Nat.zero_le _,rfl⟩ ?_
 rintro k w4 ⟨k6,hk,rfl⟩;refine ρ ?_;refine ld (O.at (i:=4) rfl) ?_;refine ρ ?_;refine Vg (fun (t:Bool)=>[(43,.bool t),(1,.pointer (some ⟨b,0,none⟩)),(2,.bool false),(5,.int .i64 (k:Int))]) (λt w5=>w5=w4/\(t=true->k<c.vs.length/\k<6)) ?_ ?_
 .refine ki 40 (λh=>?_) (λh=>?_)
  .have:=oT h;refine ρ ?_;refine Jf (decide ((k:Int)<6)) sB ⟨rfl,?_⟩;rw [decide_eq_true_eq];omega
  .refine ρ ?_;exact Jf false sB ⟨rfl,λh=>by cases h⟩
 rintro t w5 ⟨rfl,ht⟩;refine ρ ?_;refine ci (λh=>?_) (λh=>?_)
 .obtain ⟨lk,l6⟩:=ht h;clear h;obtain ⟨vu,a8,a9⟩:=ac k lk;obtain ⟨QA,qc,rfl,_⟩:=id a9;refine ρ ?_;refine ld (O.at (i:=4) rfl) ?_;refine ρ ?_;refine ix k (a6.ext C) lk ?_;refine ρ ?_;refine ld ((a6.ext C).cell a8) ?_;refine ρ ?_;refine ci (λh=>?_) (λh=>?_)
  .refine ρ ?_;exact Jq ⟨C,false,rfl,λh=>(by cases h),λG=>by have h1:=G.v8 k lk;have h2:=oT h;exact False.elim om⟩
  .refine ρ ?_;exact Qv (k+1) sO ⟨om,om,rfl⟩ om
 clear h ht;refine ρ ?_;refine ld (O.at (i:=0) rfl) ?_;refine ρ ?_;refine ki 56 (λh=>?_) (λh=>?_)
 .have hN:c.n<=6:=oT h;clear h;refine ρ ?_;refine ld (O.at (i:=4) rfl) ?_;refine ρ ?_;refine ki 67 (λh4=>?_) (λh4=>?_)
  .refine ρ ?_;refine ld (O.at (i:=5) rfl) ?_;refine ρ ?_;refine ki 73 (λh5=>?_) (λh5=>?_)
   .have r5:c.rss.length<=5:=by have:=oT h5;omega
    have v5:c.vs.length<=5:=by have:=oT h4;omega
    have ir:i=c.rss.length:=om
    have a1:FewP c:=⟨λj hj=>U j om,by rw [<-ir,<-J];exact a4,.inl hN,v5,r5⟩;refine ρ ?_;refine ld (O.at (i:=2) rfl) ?_;refine ρ ?_;refine ki 79 (λh6=>?_) (λh6=>?_)
    .refine ρ ?_;refine ld (O.at (i:=3) rfl) ?_;refine ρ ?_;exact Jq ⟨C,decide ((c.pm.length:Int)<=10),rfl,λ_=>a1,λG=>by have:=G.p10;exact decide_eq_true om⟩
    .refine ρ ?_;exact Jq ⟨C,false,rfl,λh=>(by cases h),λG=>by have h1:=G.d10;have h2:=oF h6;exact False.elim om⟩
   .refine ρ ?_;exact Jq ⟨C,false,rfl,λh=>(by cases h),λG=>by have h1:=G.r5;have h2:=oF h5;exact False.elim om⟩
  .refine ρ ?_;exact Jq ⟨C,false,rfl,λh=>(by cases h),λG=>by have h1:=G.v5;have h2:=oF h4;exact False.elim om⟩
 .have Z:¬ c.n<=6:=oF h;clear h;refine ρ ?_;refine ld (O.at (i:=0) rfl) ?_;refine ρ ?_;refine ki 61 (λh=>?_) (λh=>?_)
  .have hN:32<c.n:=oT h;clear h;refine ρ ?_;refine ld (O.at (i:=4) rfl) ?_;refine ρ ?_;refine ki 67 (λh4=>?_) (λh4=>?_)
   .refine ρ ?_;refine ld (O.at (i:=5) rfl) ?_;refine ρ ?_;refine ki 73 (λh5=>?_) (λh5=>?_)
    .have r5:c.rss.length<=5:=by have:=oT h5;omega
     have v5:c.vs.length<=5:=by have:=oT h4;omega
     have ir:i=c.rss.length:=om
     have a1:FewP c:=⟨λj hj=>U j om,by rw [<-ir,<-J];exact a4,.inr hN,v5,r5⟩;refine ρ ?_;refine ld (O.at (i:=2) rfl) ?_;refine ρ ?_;refine ki 79 (λh6=>?_) (λh6=>?_)
     .refine ρ ?_;refine ld (O.at (i:=3) rfl) ?_;refine ρ ?_;exact Jq ⟨C,decide ((c.pm.length:Int)<=10),rfl,λ_=>a1,λG=>absurd G.n6 Z⟩
     .refine ρ ?_;exact Jq ⟨C,false,rfl,λh=>(by cases h),λG=>absurd G.n6 Z⟩
    .refine ρ ?_;exact Jq ⟨C,false,rfl,λh=>(by cases h),λG=>absurd G.n6 Z⟩
   .refine ρ ?_;exact Jq ⟨C,false,rfl,λh=>(by cases h),λG=>absurd G.n6 Z⟩
  .refine ρ ?_;exact Jq ⟨C,false,rfl,λh=>(by cases h),λG=>absurd G.n6 Z⟩
end Go.Proofs.YtebcagekopgdhaaGreatDoor
