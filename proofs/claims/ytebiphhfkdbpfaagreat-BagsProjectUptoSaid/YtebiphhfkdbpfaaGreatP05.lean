/- Part 5. -/
import Derived.Test.YtebiphhfkdbpfaaGreatP04
import Derived.Scope
set_option linter.unusedVariables false
set_option maxRecDepth 100000
set_option maxHeartbeats 40000000
namespace Go.Proofs.YtebiphhfkdbpfaaGreat
open Bl
variable {B D c k r:Nat}
structure PR.Nrm(a:PR): Prop where
 den:a.den≠0
 cop:Nat.gcd a.num a.den=1
 sgn:a.num=0->a.neg=false
theorem PR.norm_nrm{a:PR}(h:a.den≠0): a.norm.Nrm:=by
 refine⟨(PR.norm_val h).2,?_,?_⟩
 .unfold PR.norm;split
  .simp
  rename_i h1;have i:0<Nat.gcd a.num a.den:=Nat.gcd_pos_of_pos_left _ om;simp only;rw[Nat.gcd_div (Nat.gcd_dvd_left _ _) (Nat.gcd_dvd_right _ _),Nat.div_self i]
 unfold PR.norm;split
 .intro e;simp only at e ⊢;rw[e];simp
 rename_i h1;intro e;simp only at e;obtain⟨x,j⟩:=Nat.gcd_dvd_left a.num a.den;have i:0<Nat.gcd a.num a.den:=Nat.gcd_pos_of_pos_left _ om;rw[Nat.div_eq_zero_iff]at e;have:=Nat.le_of_dvd om (Nat.gcd_dvd_left a.num a.den);omega
theorem PR.int_nrm(z:Int): (PR.int z).Nrm:=⟨by simp[PR.int],by simp[PR.int],λe=>by
 simp only[PR.int]at e ⊢;simp only[decide_eq_false_iff_not];omega⟩
theorem Jqd: pr0.Nrm:=⟨by decide,by decide,λ_=>rfl⟩
theorem PR.Nrm.norm{a:PR}(h:a.Nrm): a.norm=a:=by
 unfold PR.norm;by_cases e:a.num=0
 .rw[if_pos (.inl e)];have i:=h.cop;rw[e,Nat.gcd_zero_left]at i;have j:=h.sgn e;cases a;simp_all
 rw[if_neg (by have:=h.den;omega),h.cop];simp
theorem PR.addN_nrm{a b:PR}(ha:a.den≠0)(hb:b.den≠0): (PR.addN a b).Nrm:=by
 have i:a.den*b.den≠0:=Nat.mul_ne_zero ha hb;unfold PR.addN;split
 .exact PR.norm_nrm i
 split<;>exact PR.norm_nrm i
theorem PR.sub_nrm{a b:PR}(ha:a.den≠0)(hb:b.den≠0): (PR.sub a b).Nrm:=PR.addN_nrm (PR.norm_val ha).2 (PR.norm_val (PR.opp_val hb).2).2
theorem PR.mul_nrm{a b:PR}(ha:a.den≠0)(hb:b.den≠0): (PR.mul a b).Nrm:=PR.norm_nrm (Nat.mul_ne_zero (PR.norm_val ha).2 (PR.norm_val hb).2)
theorem PR.div_nrm{a b:PR}(ha:a.den≠0)(hb:b.den≠0)(h0:b.val≠0): (PR.div a b).Nrm:=by
 have i:=PR.norm_val hb;have hn:b.norm.num≠0:=λe=>h0 (by
  rw[<-i.1];have:=Vm i.2;simp only[PR.val,e];split<;>grind)
 unfold PR.div;rw[if_neg hn];exact PR.mul_nrm ha hn
theorem PR.Nrm.le{a:PR}(h:a.Nrm)(hq:isQ a.val B D): a.num<=B/\a.den<=D:=by
 obtain⟨_,_,⟨p,rfl,Z⟩,⟨q,rfl,F⟩,h0,i⟩:=hq;have G:q≠0:=λe=>h0 (by rw[e];rfl);have hd:=Vm h.den;have key:∃ z:Int,z.natAbs=a.num/\z*q=p*a.den:=by
  unfold PR.val at i;cases hn:a.neg
  .refine⟨a.num,by simp,?_⟩;rw[hn]at i;simp only[Bool.false_eq_true,if_false]at i;rw[<-Rat.intCast_inj,Rat.intCast_mul,Rat.intCast_mul,Rat.intCast_natCast,Rat.intCast_natCast];grind
  refine⟨-a.num,by simp,?_⟩;rw[hn]at i;simp only[if_true]at i;rw[<-Rat.intCast_inj,Rat.intCast_mul,Rat.intCast_mul,Rat.intCast_neg,Rat.intCast_natCast,Rat.intCast_natCast];grind
 obtain⟨z,y,e⟩:=key;have j:a.num*q.natAbs=p.natAbs*a.den:=by
  rw[<-y,<-Int.natAbs_mul,e,Int.natAbs_mul];simp
 have u:Nat.Coprime a.num a.den:=h.cop;have O:a.den ∣ q.natAbs:=(u.symm).dvd_of_dvd_mul_left (⟨p.natAbs,by rw[j,Nat.mul_comm]⟩);have J:a.num ∣ p.natAbs:=u.dvd_of_dvd_mul_right (⟨q.natAbs,j.symm⟩);have U:=Nat.le_of_dvd om O;refine⟨?_,om⟩;by_cases ep:p=0
 .rw[ep]at j;have:a.num*q.natAbs=0:=by rw[j];simp
  rcases Nat.mul_eq_zero.1 this with k|k
  .omega
  omega
 have:=Nat.le_of_dvd om J;omega
structure PNm(t:PT): Prop where
 row:∀ i j,i<t.m->j<t.right+1->((t.rows.getD i []).getD j pr0).Nrm
 goal:∀ j,j<t.right+1->(t.goal.getD j pr0).Nrm
theorem Jrv{row other:List PR}{f:PR}(hr:ROk k row)(ho:ROk k other)(hf:f.den≠0)(hn:∀ j,j<k->(row.getD j pr0).Nrm): ∀ j,j<k->((Xe row other f).getD j pr0).Nrm:=λj i=>by
 unfold Xe;split
 .exact hn j i
 have u:(List.zipWith (λa b=>if b.sign≠0 then PR.sub a (PR.mul f b) else a) row other).length=k:=by rw[List.length_zipWith,hr.1,ho.1,Nat.min_self]
 have key:(List.zipWith (λa b=>if b.sign≠0 then PR.sub a (PR.mul f b) else a) row other).getD j pr0=if(other.getD j pr0).sign≠0 then PR.sub (row.getD j pr0) (PR.mul f (other.getD j pr0)) else row.getD j pr0:=by
  rw[Xy pr0 om,Xy pr0 (l:=row) (by rw[hr.1];exact i),Xy pr0 (l:=other) (by rw[ho.1];exact i)];simp
 rw[key];split
 .exact PR.sub_nrm (hr.2 j i) (PR.mul_val hf (ho.2 j i)).2
 exact hn j i
theorem Qgl{row:List PR}{d:PR}(hr:ROk k row)(hd:d.den≠0)(h0:d.val≠0)(hn:∀ j,j<k->(row.getD j pr0).Nrm): ∀ j,j<k->((dvR row d).getD j pr0).Nrm:=λj i=>by
 have key:(dvR row d).getD j pr0=if(row.getD j pr0).sign≠0 then PR.div (row.getD j pr0) d else row.getD j pr0:=by
  have u:(dvR row d).length=k:=by rw[dvR,List.length_map,hr.1]
  rw[Xy pr0 om,Xy pr0 (l:=row) (by rw[hr.1];exact i)];simp[dvR]
 rw[key];split
 .exact PR.div_nrm (hr.2 j i) hd h0
 exact hn j i
theorem Qvm{t:PT}{T:QT}(h:Agr t T)(hn:PNm t)(hr:r<t.m)(hc:c<t.n+t.m)(h0:T.a r c≠0): PNm (t.pivot r c):=by
 have J:=h.ok.row r hr;have y:c<t.right+1:=by unfold PT.right;omega
 have F:((t.rows.getD r []).getD c pr0).val≠0:=by rw[h.a r c hr hc];exact h0
 have O:=(Jbn J (J.2 c y) F).1;refine⟨λi j hi D=>?_,λj D=>Jrv h.ok.goal O (h.ok.goal.2 c y) hn.goal j D⟩;have u:i<t.m:=hi;have G:j<t.right+1:=D;have e:(t.pivot r c).rows.getD i []=if i=r then dvR (t.rows.getD r []) ((t.rows.getD r []).getD c pr0) else Xe (t.rows.getD i []) (dvR (t.rows.getD r []) ((t.rows.getD r []).getD c pr0)) ((t.rows.getD i []).getD c pr0):=by
  unfold PT.pivot;exact Jkh [] [] _ (by rw[h.ok.rows];exact u)
 rw[e];split
 .exact Qgl J (J.2 c y) F (λj D=>hn.row r j hr D) j G
 exact Jrv (h.ok.row i u) O ((h.ok.row i u).2 c y) (λj D=>hn.row i j u D) j G
open Bl
variable {c m n r:Nat}{t:PT}{S T T0:QT}
namespace Bl
theorem z_isQ{m n:Nat}{T0 S:QT}(h0:∀ i j,i<m->j<n->isI (T0.a i j) 1)(h1:∀ i,i<m->isI (T0.b i) 1)(h2:∀ j,j<n->isI (T0.g j) 1)(hz:T0.z=0)(hw:WF m n S)(he:Eqv m n S T0)(hd:det m (bas T0 S)≠0)(hn:0<n): isQ S.z (fct (m+1)) (fct m):=by
 have F:∀ i j,i<m->j<m->isI (bas T0 S i j) 1:=λi j hi D=>h0 i _ hi (hw.lt j D);have u:=he.val _ (Uo hw hn 0);rw[Jzf hw hn]at u;unfold QT.val at u;rw[Gm hw hn 0 T0.g,hz]at u;have e:Jb m (λk=>T0.g (S.β k)*(S.b k-S.a k 0*0))=Jb m λk=>T0.g (S.β k)*S.b k:=by congr 1;funext k;grind
 rw[e]at u;refine⟨-(Jb m λk=>T0.g (S.β k)*det m (Jt (bas T0 S) k λi=>T0.b i)),_,?_,Gx F,hd,?_⟩
 .refine(Jyx (B:=fct m) λk y=>?_).neg.mono (by rw[fct,Nat.add_mul];omega);exact((h2 _ (hw.lt k y)).mul (Gx λi j hi D=>by
   simp only[Jt];split
   .exact h1 i hi
   exact F i j hi D)).mono (by simp)
 rw[Ue (g:=λk=>det m (bas T0 S)*(T0.g (S.β k)*S.b k)) λk y=>by
  rw[Kx (x:=λk=>S.b k) y λi hi=>(Kz hw he hn hi).2];grind]
 rw[Gb];grind
theorem isQ.neg{q:Rat}{B D:Nat}(h:isQ q B D): isQ (-q) B D:=by
 obtain⟨a,d,j,i,h0,e⟩:=h;exact⟨-a,d,j.neg,i,h0,by rw[e];grind⟩
theorem isQ.mono{q:Rat}{B C D:Nat}(h:isQ q B D)(k:B<=C): isQ q C D:=by
 obtain⟨a,d,j,i,h0,e⟩:=h;exact⟨a,d,j.mono k,i,h0,e⟩
theorem Jkn(m:Nat): fct m<=fct (m+1):=by rw[fct,Nat.add_mul];omega
end Bl
structure Art(t:PT): Prop where
 row:∀ i,i<t.m->((t.rows.getD i []).getD (t.n+t.m) pr0).val = -((t.rows.getD i []).getD t.right pr0).val
 goal:(t.goal.getD (t.n+t.m) pr0).val = -(t.goal.getD t.right pr0).val
theorem Qnl(h:Agr t T)(ha:Art t)(hr:r<t.m)(hc:c<t.n+t.m)(h0:T.a r c≠0): Art (t.pivot r c):=by
 have J:=h.ok.row r hr;have D:c<t.right+1:=by unfold PT.right;omega
 have u:t.right<t.right+1:=om
 have j:t.n+t.m<t.right+1:=by unfold PT.right;omega
 have F:((t.rows.getD r []).getD c pr0).val≠0:=by rw[h.a r c hr hc];exact h0
 obtain⟨O,dv⟩:=Jbn J (J.2 c D) F;have G:=Jkv h.ok.goal O (h.ok.goal.2 c D);refine⟨λi hi=>?_,?_⟩
 .have y:i<t.m:=hi;have e:(t.pivot r c).rows.getD i []=if i=r then dvR (t.rows.getD r []) ((t.rows.getD r []).getD c pr0) else Xe (t.rows.getD i []) (dvR (t.rows.getD r []) ((t.rows.getD r []).getD c pr0)) ((t.rows.getD i []).getD c pr0):=by
   unfold PT.pivot;exact Jkh [] [] _ (by rw[h.ok.rows];exact y)
  have Z:(t.pivot r c).right=t.right:=rfl;have U:(t.pivot r c).n+(t.pivot r c).m=t.n+t.m:=rfl;rw[e,Z,U];split
  .rw[dv _ j,dv _ u,ha.row r hr];grind
  have hc:=Jkv (h.ok.row i y) O ((h.ok.row i y).2 c D);rw[hc.2 _ j,hc.2 _ u,dv _ j,dv _ u,ha.row r hr,ha.row i y];grind
 refine(G.2 _ j).trans (Eq.trans ?_ (congrArg (- ·) (G.2 _ u).symm))
 rw[dv _ j,dv _ u,ha.row r hr,ha.goal];grind
structure PSt(n m:Nat)(T0:QT)(t:PT)(S:QT): Prop where
 agr:Agr t S
 nrm:PNm t
 art:Art t
 em:t.m=m
 en:t.n=n
 wf:WF m (n+m) S
 feas:Kc m S
 e1:Eqv m (n+m) T0 S
 e2:Eqv m (n+m) S T0
 det:det m (bas T0 S)≠0
theorem PSt.pivot(h:PSt n m T0 t S)(hB:Bst m (n+m) S r c): PSt n m T0 (t.pivot r c) (S.pivot r c):=by
 obtain⟨u,hn,j,rfl,rfl,y,F,J,D,G⟩:=h;have i:S.a r c≠0:=by have:=hB.pos;grind
 refine⟨Qnq u hB.rm hB.cn i,Qvm u hn hB.rm hB.cn i,Qnl u j hB.rm hB.cn i,rfl,rfl,Jdq y hB.rm hB.cn i,Jpl hB F,J.trans (Jpp hB.rm i),(Jpq hB.rm i).trans D,?_⟩;rw[Qhd y D hB.rm hB.cn];intro e;rcases Rat.mul_eq_zero.1 e with e|e
 .exact i e
 exact G e
theorem PSt.next(h:PSt n m T0 t S)(hb:Bnd m (n+m) T0)(hc:t.enter (n+m)=some c): c<n+m/\∃ r,t.leaving c=some r/\r<m/\Bst m (n+m) S r c/\PSt n m T0 (t.pivot r c) (S.pivot r c):=by
 have F:=Jpr h.agr (cols:=n+m) (by rw[h.em,h.en];exact nR _);rw[hc]at F;obtain⟨u,J,Z⟩:=F;obtain⟨i,hi,y⟩:=hb _ h.wf h.feas h.e1 h.e2 c u J;have j:=Jmm h.agr (c:=c) (by rw[h.em,h.en];exact u) t.m (nR _);rw[h.em]at j;cases hq:lvS t c m with
 | none=>rw[hq]at j;exact absurd y (j i hi)
 | some p=>
  obtain⟨r,q⟩:=p;rw[hq]at j;obtain⟨D,U,v3,v4,O⟩:=j;have G:Bst m (n+m) S r c:=⟨D,u,J,Z,U,O⟩;exact⟨u,r,by unfold PT.leaving;rw[h.agr.ok.rows,h.em,hq];rfl,D,G,h.pivot G⟩
theorem PSt.small(h:PSt n m T0 t S)(h0:∀ i j,i<m->j<n+m->isI (T0.a i j) 1)(h1:∀ i,i<m->isI (T0.b i) 1)(h2:∀ j,j<n+m->isI (T0.g j) 1)(hz:T0.z=0)(hnm:0<n+m): (∀ i j,i<m->j<n+m+2->((t.rows.getD i []).getD j pr0).num<=fct (m+1)/\((t.rows.getD i []).getD j pr0).den<=fct m)/\∀ j,j<n+m+2->(t.goal.getD j pr0).num<=fct (m+1)/\(t.goal.getD j pr0).den<=fct m:=by
 obtain⟨y,hn,u,rfl,rfl,D,hf,e1,G,F⟩:=h;obtain⟨Z,O⟩:=Qgh h0 h1 D G F hnm;have U:=Qwk h0 h2 D G F;have J:=z_isQ h0 h1 h2 hz D G F hnm;have er:t.right=t.n+t.m+1:=rfl;refine⟨λi j hi hj=>(hn.row i j hi om).le ?_,λj hj=>(hn.goal j om).le ?_⟩
 .by_cases c1:j<t.n+t.m
  .rw[y.a i j hi c1];exact(Z i j hi c1).mono (Jkn _)
  by_cases c2:j=t.right
  .rw[c2,y.b i hi];exact(O i hi).mono (Jkn _)
  rw[show j=t.n+t.m by omega,u.row i hi,y.b i hi];exact((O i hi).mono (Jkn _)).neg
 by_cases c1:j<t.n+t.m
 .rw[y.g j c1];exact U j c1
 by_cases c2:j=t.right
 .rw[c2,y.z];exact J
 rw[show j=t.n+t.m by omega,u.goal,y.z];exact J.neg
open Bl
variable {A:List (List PR)}{fuel i j n:Nat}
def Bin(n:Nat)(A:List (List PR)): Prop:=∀ i,i<A.length->(A.getD i []).length=n/\∀ j,j<n->(A.getD i []).getD j pr0=pr0∨(A.getD i []).getD j pr0=PR.int 1
theorem Bin.rok(h:Bin n A): ∀ i,i<A.length->ROk n (A.getD i []):=λi hi=>⟨(h i hi).1,λj u=>by
 rcases(h i hi).2 j u with e|e<;>rw[e]<;>decide⟩
theorem Bin.mat(h:Bin n A)(hi:i<A.length)(hj:j<n): Xp A i j=0∨Xp A i j=1:=by
 unfold Xp;rcases(h i hi).2 j hj with e|e<;>rw[e]
 .exact .inl Iz
 exact .inr Jzg
theorem Qvx(h:Bin n A): (∀ i j,i<A.length->j<n+A.length->isI ((pck n (Xp A)).a i j) 1)/\(∀ i,i<A.length->isI ((pck n (Xp A)).b i) 1)/\∀ j,j<n+A.length->isI ((pck n (Xp A)).g j) 1:=by
 have y:isI 0 1:=⟨0,rfl,by simp⟩;have u:isI 1 1:=⟨1,rfl,by simp⟩;refine⟨λi j hi D=>?_,λi hi=>u,λj D=>?_⟩
 .simp only[pck];split
  .rename_i h1;rcases h.mat hi h1 with e|e<;>rw[e]
   .exact y
   exact u
  split
  .exact u
  exact y
 simp only[pck];split
 .exact u.neg
 exact y
theorem PSt.start(h:Bin n A): PSt n A.length (pck n (Xp A)) (PT.ofP n A) (pck n (Xp A)):=by
 have y:=PR.int_nrm 1;have J:=PR.int_nrm (-1);refine⟨Qbb h.rok,⟨λi j hi D=>?_,λj D=>?_⟩,⟨λi hi=>?_,?_⟩,rfl,rfl,Jyb _ _ _,Jlb _ _ _,Eqv.refl _,Eqv.refl _,?_⟩
 .have u:i<A.length:=hi;rw[Ib h.rok i j u];split
  .rename_i h1;rcases(h i u).2 j h1 with e|e<;>rw[e]
   .exact Jqd
   exact y
  split
  .split
   .exact y
   exact Jqd
  split
  .exact J
  split
  .exact y
  exact Jqd
 .rw[Jzn];split
  .exact J
  exact Jqd
 .have u:i<A.length:=hi;have G:(PT.ofP n A).n+(PT.ofP n A).m=n+A.length:=rfl;have F:(PT.ofP n A).right=n+A.length+1:=rfl;rw[Ib h.rok i _ u,Ib h.rok i _ u,G,F,if_neg om,if_neg om,if_pos rfl,if_neg om,if_neg om,if_neg om,if_pos rfl,Jhr,Jzg]
 .have G:(PT.ofP n A).n+(PT.ofP n A).m=n+A.length:=rfl;have F:(PT.ofP n A).right=n+A.length+1:=rfl;rw[Jzn,Jzn,G,F,if_neg om,if_neg om,Iz];grind
 rw[Jpv λi j hi D=>by unfold bas;rw[(Jyb n A.length (Xp A)).unit j i D hi]];simp
theorem PSt.ends{n m:Nat}{T0:QT}(hb:Bnd m (n+m) T0): ∀(fuel:Nat) {K:Nat} {T:Nat->QT} {R C:Nat->Nat} {t:PT},Run m (n+m) K T R C->T 0=T0->PSt n m T0 t (T K)->(n+m)^m<=K+fuel->∃ t' S,PT.maxim (n+m) fuel t=some t'/\PSt n m T0 t' S/\∀ j,j<n+m->0<=S.g j
 | 0,K,T,R,C,t,h,h0,hs,hf=>by have:=h.short;omega
 | fuel+1,K,T,R,C,t,h,h0,hs,hf=>by
  cases hl:t.enter (n+m) with
  | none=>
   have he:=Jpr hs.agr (cols:=n+m) (by rw[hs.em,hs.en];exact nR _);rw[hl]at he;exact⟨t,T K,by simp only[PT.maxim,hl],hs,he⟩
  | some c=>
   obtain⟨hc,r,hlv,hr,hB,hn⟩:=hs.next hb hl;have hrun:Run m (n+m) (K+1) (λk=>if k<=K then T k else(T K).pivot r c) (λk=>if k<K then R k else r) (λk=>if k<K then C k else c):=by
    refine⟨by simp only[Nat.zero_le,if_true];exact h.w0,by simp only[Nat.zero_le,if_true];exact h.f0,λk hk=>?_,λk hk=>?_⟩
    .rw[if_pos (show k<=K by omega)];by_cases e:k<K
     .rw[if_pos e,if_pos e];exact h.st k e
     rw[if_neg e,if_neg e,show k=K by omega];exact hB
    rw[if_pos (show k<=K by omega)];by_cases e:k<K
    .rw[if_pos e,if_pos e,if_pos (show k+1<=K by omega)];exact h.nx k e
    rw[if_neg e,if_neg e,if_neg (show¬ k+1<=K by omega),show k=K by omega]
   obtain⟨t',S,g1,g2⟩:=PSt.ends hb fuel (t:=t.pivot r c) hrun (by simp only[Nat.zero_le,if_true];exact h0) (by
    simp only[if_neg (show¬ K+1<=K by omega)];exact hn) om
   exact⟨t',S,by simp only[PT.maxim,hl,hlv];exact g1,g2⟩
theorem Jlg(h:Bin n A)(h1:∀ j,j<n->∃ i,i<A.length/\Xp A i j=1)(hf:(n+A.length)^A.length<=fuel): Bnd A.length (n+A.length) (pck n (Xp A))/\∃ t' S,PT.maxim (n+A.length) fuel (PT.ofP n A)=some t'/\PSt n A.length (pck n (Xp A)) t' S/\∀ j,j<n+A.length->0<=S.g j:=by
 have u:Bnd A.length (n+A.length) (pck n (Xp A)):=Qvz (λi j hi D=>by rcases h.mat hi D with e|e<;>rw[e]<;>grind) h1;exact⟨u,PSt.ends u fuel (K:=0) (T:=λ_=>pck n (Xp A)) (R:=λ_=>0) (C:=λ_=>0) ⟨Jyb _ _ _,Jlb _ _ _,λk y=>om,λk y=>om⟩ rfl (PSt.start h) om⟩
open Bl
namespace Bl
def bpt(m:Nat)(S:QT)(v:Nat): Rat:=Jb m λi=>if S.β i=v then S.b i else 0
end Bl
theorem PSt.dual{n m:Nat}{T0 S:QT}{t:PT}(h:PSt n m T0 t S): t.dual.length=m/\∀ i,i<m->(t.dual.getD i pr0).val=S.g (n+i):=by
 obtain⟨y,hn,u,rfl,rfl,F,G,Z,U,J⟩:=h;have D:=y.ok.goal.1;have O:t.right=t.n+t.m+1:=rfl;have j:t.dual.length=t.m:=by unfold PT.dual;rw[List.length_take,List.length_drop,D];omega
 refine⟨j,λi hi=>?_⟩;rw[<-y.g (t.n+i) om,Xy pr0 om,Xy pr0 (l:=t.goal) om];simp[PT.dual]
theorem PSt.point{n m:Nat}{T0 S:QT}{t:PT}(h:PSt n m T0 t S): t.point.length=n/\∀ v,v<n->(t.point.getD v pr0).val=bpt m S v:=by
 obtain⟨u,hn,F,rfl,rfl,O,hf,e1,e2,hd⟩:=h;have hl:=u.ok.basis;have j:t.point.length=t.n:=by simp[PT.point]
 refine⟨j,λv Z=>?_⟩;rw[Xy pr0 om];simp only[PT.point,List.getElem_map,List.getElem_range];unfold bpt;cases hq:(List.range t.basis.length).reverse.find? λi=>t.basis.getD i 0 == v with
 | none=>
  simp only[];rw[Iz,Jjx];intro i hi;have:=List.find?_eq_none.1 hq i (by simp;omega);rw[u.β i hi]at this;rw[if_neg (by simpa using this)]
 | some i=>
  simp only[];have J:=List.find?_some hq;have y:i<t.m:=by
   have:=List.mem_of_find?_eq_some hq;simp at this;omega
  rw[u.β i y]at J;have G:S.β i=v:=by simpa using J
  rw[u.b i y,Ua y λk U D=>by
   rw[if_neg (λe=>D (O.inj U y (by rw[e,G])))],if_pos G]
end Go.Proofs.YtebiphhfkdbpfaaGreat
namespace Go.Proofs.YtebiphhfkdbpfaaGreat.Bl
variable {k m:Nat}
def cnt: Nat->(Nat->Bool)->Nat
 | 0,_=>0
 | m+1,P=>cnt m P+(P m).toNat
theorem Jrk: ∀ {m:Nat} {P Q:Nat->Bool},(∀ j,j<m->P j=Q j)->cnt m P=cnt m Q
 | 0,_,_,_=>rfl
 | m+1,P,Q,h=>by rw[cnt,cnt,Jrk λj hj=>h j om,h m om]
def skp(j l:Nat): Nat:=if l<j then l else l+1
theorem Jbz{P:Nat->Bool}{j:Nat}: ∀ {m:Nat},j<=m->cnt m (λl=>P (skp j l))+(P j).toNat=cnt (m+1) P
 | 0,h=>by(obtain rfl:j=0:=by omega);(simp[cnt])
 | m+1,h=>by
  by_cases e:j=m+1
  .subst e;rw[Jrk (Q:=P) λl hl=>by rw[skp,if_pos hl]];simp[cnt]
  have ih:=Jbz (P:=P) (j:=j) (m:=m) om;rw[cnt,cnt];have:skp j m=m+1:=by rw[skp,if_neg om]
  rw[this];omega
theorem Jqw{p:Nat}: ∀ {q:Nat},p<=q->fct p<=fct q
 | 0,h=>by(obtain rfl:p=0:=by omega);(exact nR _)
 | q+1,h=>by
  by_cases e:p=q+1
  .rw[e];exact nR _
  have:=Jqw (p:=p) (q:=q) om;have h2:fct q<=fct (q+1):=by rw[fct,Nat.add_mul];omega
  omega
theorem Jyw{B:Nat}{f:Nat->Rat}{P:Nat->Bool}: ∀ {k:Nat},(∀ j,j<k->P j=true->isI (f j) B)->(∀ j,j<k->P j=false->f j=0)->isI (Jb k f) (cnt k P*B)
 | 0,_,_=>⟨0,rfl,by simp⟩
 | k+1,h,z=>by
  have ih:=Jyw (k:=k) (λj hj=>h j om) λj hj=>z j om;rw[Jb,cnt];cases e:P k with
  | true=>exact(ih.add (h k om e)).mono (by rw[Nat.add_mul];simp)
  | false=>
   rw[z k om e];have:Jb k f+0=Jb k f:=by grind
   rw[this];exact ih.mono (by simp)
theorem Qhb{M:MQ}(hk:k<m)(h:∀ i,i<m->M i k=0): det m M=0:=by
 have h0:=Kq M hk (λ_=>0) (λ_=>0) 1;have e:(λ_:Nat=>(0:Rat)+1*0)=λ_=>0:=by funext i;grind
 rw[e]at h0;have u:det m M=det m (Jt M k λ_=>0):=Jqz λi j hi y=>by
  simp only[Jt];split
  .rename_i hj2;rw[hj2];exact h i hi
  rfl
 rw[u];grind
def Uni(m:Nat)(M:MQ)(j:Nat): Prop:=∃ r,∀ i,i<m->M i j=if i=r then 1 else 0
theorem Jbr: ∀ {m:Nat} {M:MQ} {P:Nat->Bool},(∀ i j,i<m->j<m->isI (M i j) 1)->(∀ j,j<m->P j=false->Uni m M j)->isI (det m M) (fct (cnt m P))
 | 0,_,_,_,_=>⟨1,rfl,by simp[fct,cnt]⟩
 | m+1,M,P,h,hu=>by
  have hd:∀ j,j<m+1->isI (det m (Qr j M)) (fct (cnt m λl=>P (skp j l))):=λj hj=>Jbr (λi k hi hk=>by
   unfold Qr;split<;>exact h _ _ om om) λl hl hp=>by
   have hs:skp j l<m+1:=by unfold skp;split<;>omega
   obtain⟨r,hr⟩:=hu _ hs hp;refine⟨if r=0 then m else r-1,λi hi=>?_⟩;have:=hr (i+1) om;simp only[Qr];unfold skp at this;rw[this];by_cases e:r=0
   .rw[if_pos e,if_neg om,if_neg om]
   rw[if_neg e];by_cases e2:i+1=r
   .rw[if_pos e2,if_pos om]
   rw[if_neg e2,if_neg om]
  rw[det];rcases Classical.em (∃ j,j<m+1/\P j=false/\M 0 j=1) with⟨j,hj,hp,h1⟩|hno
  .obtain⟨r,hr⟩:=hu j hj hp;have hr0:r=0:=by
    have:=hr 0 om;by_cases e:r=0
    .exact e
    rw[if_neg (λh=>e h.symm),h1]at this;simp at this
   rw[Ua hj λl hl hne=>by
    rw[Qhb (m:=m) (M:=Qr l M) (k:=if j<l then j else j-1) (by split<;>omega) λi hi=>by
     simp only[Qr];have e:(if(if j<l then j else j-1)<l then(if j<l then j else j-1) else(if j<l then j else j-1)+1)=j:=by
      by_cases e:j<l
      .rw[if_pos e,if_pos e]
      rw[if_neg e,if_neg om];omega
     rw[e,hr (i+1) om,if_neg om]]
    grind]
   have hc:=Jbz (P:=P) (m:=m) (j:=j) om;rw[hp]at hc;have h2:=((Jyz j).mul (h 0 j om hj)).mul (hd j hj);exact h2.mono (by rw[<-hc];simp)
  have hz:∀ j,j<m+1->P j=false->sg j*M 0 j*det m (Qr j M)=0:=λj hj hp=>by
   obtain⟨r,hr⟩:=hu j hj hp;have h0:=hr 0 om;have:M 0 j=0:=by
    by_cases e:0=r
    .rw[if_pos e]at h0;exact absurd ⟨j,hj,hp,h0⟩ hno
    rw[if_neg e]at h0;exact h0
   rw[this];grind
  have ht:∀ j,j<m+1->P j=true->isI (sg j*M 0 j*det m (Qr j M)) (fct (cnt (m+1) P-1)):=λj hj hp=>by
   have hc:=Jbz (P:=P) (m:=m) (j:=j) om;rw[hp]at hc;have e:cnt (m+1) P-1=cnt m λl=>P (skp j l):=by rw[<-hc];simp
   rw[e];exact(((Jyz j).mul (h 0 j om hj)).mul (hd j hj)).mono (by simp)
  have hs:=Jyw ht hz;refine hs.mono ?_;cases e:cnt (m+1) P with
  | zero=>simp
  | succ q=>simp[fct]
end Go.Proofs.YtebiphhfkdbpfaaGreat.Bl
namespace Go.Proofs.YtebiphhfkdbpfaaGreat
open Bl
namespace Bl
variable {B k m n:Nat}
theorem Jrj{P:Nat->Bool}: ∀ m,cnt m P=((List.range m).filter P).length
 | 0=>rfl
 | m+1=>by
  rw[cnt,Jrj m,List.range_succ,List.filter_append,List.length_append];cases e:P m<;>simp[e]
theorem cnt_le{P:Nat->Bool}{f:Nat->Nat}(h:∀ k,k<m->P k=true->f k<n)(hi:∀ k l,k<m->l<m->P k=true->P l=true->f k=f l->k=l): cnt m P<=n:=by
 rw[Jrj,<-List.length_map (f:=f)];refine Jzs n ?_ λu j=>?_
 .unfold List.Nodup;rw[List.pairwise_map];have hn:((List.range m).filter P).Pairwise (λa b=>a<b):=List.Pairwise.filter _ List.pairwise_lt_range;refine hn.imp_of_mem fun {a b} ha hb hab e=>?_
  simp only[List.mem_filter,List.mem_range]at ha hb;have:=hi a b ha.1 hb.1 ha.2 hb.2 e;omega
 obtain⟨k,i,rfl⟩:=List.mem_map.1 j;simp only[List.mem_filter,List.mem_range]at i;exact h k i.1 i.2
variable {n m:Nat} {A:MQ} {S:QT}
theorem Jsw(hw:WF m (n+m) S)(hk:k<m)(h:¬ S.β k<n): Uni m (bas (pck n A) S) k:=⟨S.β k-n,λi hi=>by
 simp only[bas,pck];rw[if_neg h];by_cases e:S.β k-n=i
 .rw[if_pos e,if_pos e.symm]
 rw[if_neg e,if_neg (λh=>e h.symm)]⟩
theorem Qnc(h0:∀ i j,i<m->j<n+m->isI ((pck n A).a i j) 1)(hw:WF m (n+m) S): isI (det m (bas (pck n A) S)) (fct n):=by
 refine(Jbr (P:=λk=>decide (S.β k<n)) (λi j hi y=>h0 i _ hi (hw.lt j y)) λj y u=>Jsw hw y (by simpa using u)).mono (Jqw (cnt_le (f:=S.β) (λk D u=>by simpa using u) λk l D F _ _ e=>hw.inj D F e))
theorem Jwc(h0:∀ i j,i<m->j<n+m->isI ((pck n A).a i j) 1)(hw:WF m (n+m) S)(hk:k<m){v:Nat->Rat}(hv:∀ i,i<m->isI (v i) 1): isI (det m (Jt (bas (pck n A) S) k v)) (fct (n+1)):=by
 refine(Jbr (P:=λl=>l == k || decide (S.β l<n)) (λi j hi F=>?_) λj F u=>?_).mono (Jqw (cnt_le (f:=λl=>if l=k then n else S.β l) (λl G u=>?_) λl J G D u y e=>?_))
 .simp only[Jt];split
  .exact hv i hi
  exact h0 i _ hi (hw.lt j F)
 .simp only[Bool.or_eq_false_iff,beq_eq_false_iff_ne,decide_eq_false_iff_not]at u;obtain⟨r,O⟩:=Jsw (A:=A) hw F u.2;exact⟨r,λi hi=>by simp only[Jt];rw[if_neg u.1];exact O i hi⟩
 .simp only[Bool.or_eq_true,beq_iff_eq,decide_eq_true_eq]at u;split<;>omega
 simp only[Bool.or_eq_true,beq_iff_eq,decide_eq_true_eq]at u y;by_cases e1:l=k<;>by_cases e2:J=k
 .omega
 .rw[if_pos e1,if_neg e2]at e;omega
 .rw[if_neg e1,if_pos e2]at e;omega
 rw[if_neg e1,if_neg e2]at e;exact hw.inj G D e
theorem Jsx(hw:WF m (n+m) S){f:Nat->Rat}(hf:∀ k,k<m->isI (f k) B): isI (Jb m λk=>(pck n A).g (S.β k)*f k) (n*B):=by
 refine(Jyw (P:=λk=>decide (S.β k<n)) (B:=B) (λk j i=>?_) λk j i=>?_).mono (nO B (cnt_le (f:=S.β) (λk j i=>by simpa using i) λk l j u _ _ e=>hw.inj j u e))
 .simp only[pck];rw[if_pos (by simpa using i)];exact(isI.mul (p:=-1) (B:=1) ⟨-1,rfl,by simp⟩ (hf k j)).mono (by simp)
 simp only[pck];rw[if_neg (by simpa using i)];grind
end Bl
theorem PSt.few{n m:Nat}{A:MQ}{S:QT}{t:PT}(h:PSt n m (pck n A) t S)(h0:∀ i j,i<m->j<n+m->isI ((pck n A).a i j) 1)(hnm:0<n+m): (∀ i j,i<m->j<n+m+2->((t.rows.getD i []).getD j pr0).num<=fct (n+1)/\((t.rows.getD i []).getD j pr0).den<=fct n)/\∀ j,j<n+m+2->(t.goal.getD j pr0).num<=(n+1)*fct (n+1)/\(t.goal.getD j pr0).den<=fct n:=by
 obtain⟨G,hn,F,rfl,rfl,y,hf,e1,Z,U⟩:=h;have er:t.right=t.n+t.m+1:=rfl;have J:=Qnc h0 y;have i1:∀ i,i<t.m->isI ((pck t.n A).b i) 1:=λi hi=>⟨1,rfl,by simp⟩;have cA:∀ k c,k<t.m->c<t.n+t.m->Bl.det t.m (Jt (bas (pck t.n A) S) k λi=>(pck t.n A).a i c)=S.a k c*Bl.det t.m (bas (pck t.n A) S):=λk c u D=>Kx (x:=λk=>S.a k c) u λi hi=>(Kz y Z D hi).1;have cB:∀ k,k<t.m->Bl.det t.m (Jt (bas (pck t.n A) S) k λi=>(pck t.n A).b i)=S.b k*Bl.det t.m (bas (pck t.n A) S):=λk u=>Kx (x:=λk=>S.b k) u λi hi=>(Kz y Z hnm hi).2;have k1:∀ k c,k<t.m->c<t.n+t.m->isQ (S.a k c) (fct (t.n+1)) (fct t.n):=λk c u D=>⟨_,_,Jwc h0 y u λi hi=>h0 i c hi D,J,U,by rw[cA k c u D];grind⟩;have k2:∀ k,k<t.m->isQ (S.b k) (fct (t.n+1)) (fct t.n):=λk u=>⟨_,_,Jwc h0 y u i1,J,U,by rw[cB k u];grind⟩;have a1:fct t.n<=fct (t.n+1):=Jkn _;have k3:∀ c,c<t.n+t.m->isQ (S.g c) ((t.n+1)*fct (t.n+1)) (fct t.n):=λc D=>by
  refine⟨(pck t.n A).g c*Bl.det t.m (bas (pck t.n A) S) + -(Jb t.m λk=>(pck t.n A).g (S.β k)*Bl.det t.m (Jt (bas (pck t.n A) S) k λi=>(pck t.n A).a i c)),_,?_,J,U,?_⟩
  .have hg:isI ((pck t.n A).g c) 1:=by
    simp only[pck];split
    .exact⟨-1,rfl,by simp⟩
    exact⟨0,rfl,by simp⟩
   exact((hg.mul J).add (Jsx y λk u=>Jwc h0 y u λi hi=>h0 i c hi D).neg).mono (by rw[Nat.add_mul];omega)
  have h:=Jvv y Z D;rw[Ue (g:=λk=>Bl.det t.m (bas (pck t.n A) S)*((pck t.n A).g (S.β k)*S.a k c)) λk u=>by rw[cA k c u D];grind];rw[Gb];grind
 have k4:isQ S.z ((t.n+1)*fct (t.n+1)) (fct t.n):=by
  have O:=Z.val _ (Uo y hnm 0);rw[Jzf y hnm]at O;unfold QT.val at O;rw[Gm y hnm 0 (pck t.n A).g]at O;have e:Jb t.m (λk=>(pck t.n A).g (S.β k)*(S.b k-S.a k 0*0))=Jb t.m λk=>(pck t.n A).g (S.β k)*S.b k:=by congr 1;funext k;grind
  have ez:(pck t.n A).z=0:=rfl;rw[e,ez]at O;refine⟨-(Jb t.m λk=>(pck t.n A).g (S.β k)*Bl.det t.m (Jt (bas (pck t.n A) S) k λi=>(pck t.n A).b i)),_,(Jsx y λk u=>Jwc h0 y u i1).neg.mono (by rw[Nat.add_mul];omega),J,U,?_⟩;rw[Ue (g:=λk=>Bl.det t.m (bas (pck t.n A) S)*((pck t.n A).g (S.β k)*S.b k)) λk u=>by rw[cB k u];grind];rw[Gb];grind
 refine⟨λi j hi hj=>(hn.row i j hi om).le ?_,λj hj=>(hn.goal j om).le ?_⟩
 .by_cases c1:j<t.n+t.m
  .rw[G.a i j hi c1];exact k1 i j hi c1
  by_cases c2:j=t.right
  .rw[c2,G.b i hi];exact k2 i hi
  rw[show j=t.n+t.m by omega,F.row i hi,G.b i hi];exact(k2 i hi).neg
 by_cases c1:j<t.n+t.m
 .rw[G.g j c1];exact k3 j c1
 by_cases c2:j=t.right
 .rw[c2,G.z];exact k4
 rw[show j=t.n+t.m by omega,F.goal,G.z];exact k4.neg
namespace Nw
variable {n p x:Nat}
theorem Jcz(z x:Int)(hz:0<=z)(hx:0<=x): ∀ n:Nat,((n:Int)+1)*z*x^n<=z^(n+1)+n*x^(n+1)
 | 0=>by simp[Int.pow_succ]
 | n+1=>by
  have ih:=Jcz z x hz hx n;have h1:z*(((n:Int)+1)*z*x^n)<=z*(z^(n+1)+n*x^(n+1)):=Int.mul_le_mul_of_nonneg_left ih hz;have h2:0<=((n:Int)+1)*x^n*((x-z)*(x-z)):=Int.mul_nonneg (Int.mul_nonneg om (Int.pow_nonneg hx)) (by
   rcases Int.le_total 0 (x-z) with h|h
   .exact Int.mul_nonneg h h
   have:=Int.mul_nonneg (show 0<=-(x-z) by omega) (show 0<=-(x-z) by omega);rwa [Int.neg_mul_neg]at this)
  have e:z^(n+1+1)+((n+1:Nat):Int)*x^(n+1+1)-(((n+1:Nat):Int)+1)*z*x^(n+1)=(z*(z^(n+1)+n*x^(n+1))-z*(((n:Int)+1)*z*x^n))+((n:Int)+1)*x^n*((x-z)*(x-z)):=by
   rw[Int.natCast_add];grind
  omega
def Jxg(p n x:Nat): Prop:=x^n<=p/\p<(x+1)^n
theorem Qkp{y:Nat}(hx:Jxg p n x)(hy:Jxg p n y): x=y:=by
 rcases Nat.lt_trichotomy x y with h|h|h
 .have:=Nat.pow_le_pow_left (show x+1<=y by omega) n;have:=hx.2;have:=hy.1;omega
 .exact h
 have:=Nat.pow_le_pow_left (show y+1<=x by omega) n;have:=hy.2;have:=hx.1;omega
def step(p n x:Nat): Nat:=((n-1)*x+p / x^(n-1)) / n
theorem Jfp(hn:0<n)(hx:0<x): p<(step p n x+1)^n:=by
 obtain⟨k,rfl⟩:∃ k,n=k+1:=⟨n-1,om⟩;simp only[step,Nat.add_sub_cancel];generalize hq:p / x^k=q
 generalize hy:(k*x+q) / (k+1)=y
 have i:0<x^k:=Nat.pow_pos hx;have J:p<(q+1)*x^k:=by
  have:=Nat.div_add_mod p (x^k);have:=Nat.mod_lt p i;rw[hq]at *;grind
 have G:k*x+q+1<=(k+1)*(y+1):=by
  have:=Nat.div_add_mod (k*x+q) (k+1);have:=Nat.mod_lt (k*x+q) (show 0<k+1 by omega);rw[hy]at *;grind
 have j:=Jcz ((y+1:Nat):Int) (x:Int) om om k;have F:(((q+1)*x^k+k*x^(k+1):Nat):Int)<=(((k+1)*(y+1)*x^k:Nat):Int):=by
  have:=nO (x^k) G;have e:(k*x+q+1)*x^k=(q+1)*x^k+k*x^(k+1):=by grind
  rw[e]at this;exact Int.ofNat_le.2 this
 have D:(((k+1)*(y+1)*x^k:Nat):Int)=((k:Int)+1)*((y+1:Nat):Int)*(x:Int)^k:=by
  rw[Int.natCast_mul,Int.natCast_mul,Int.natCast_add,Int.natCast_pow];rfl
 have u:(((y+1)^(k+1)+k*x^(k+1):Nat):Int)=((y+1:Nat):Int)^(k+1)+(k:Int)*(x:Int)^(k+1):=by
  rw[Int.natCast_add,Int.natCast_mul,Int.natCast_pow,Int.natCast_pow]
 rw[<-D,<-u]at j;have:=Int.ofNat_le.1 (Int.le_trans F j);omega
theorem Qzb(hn:0<n)(hx:0<x)(h:x<=step p n x): x^n<=p:=by
 obtain⟨k,rfl⟩:∃ k,n=k+1:=⟨n-1,om⟩;simp only[step,Nat.add_sub_cancel]at h;have j:x*(k+1)<=k*x+p / x^k:=(Nat.le_div_iff_mul_le om).1 h;have i:x<=p / x^k:=by grind
 have:=(Nat.le_div_iff_mul_le (Nat.pow_pos hx)).1 i;rw[Nat.pow_succ];grind
theorem Qzc(hn:1<n)(hp:0<p)(hx:0<x): 0<step p n x:=by
 have h:=Jfp (p:=p) (n:=n) om hx;rcases Nat.eq_zero_or_pos (step p n x) with h0|h0
 .rw[h0,Nat.zero_add,Nat.one_pow]at h;omega
 exact h0
end Nw
open Go.RowKit Pl Go.Wk
attribute [local irreducible] WC WL QX WD WDB WP WN WG WH
variable {b2 m n:Nat}{q:PR}{a p u v y:Value}{w w' w1:World}
def RtX(N:Nat->Prop)(w:World)(v:Value)(q:PR): Prop:=∃ x y,v=.agg #[.bool q.neg,x,y]/\NatX N w x q.num/\NatX N w y q.den
def RtC(N:Nat->Prop)(w:World)(cs:List Value)(q:PR): Prop:=∃ x y,cs=[.bool q.neg,x,y]/\NatX N w x q.num/\NatX N w y q.den
section
variable {N N':Nat->Prop} {w w':World} {v:Value} {cs:List Value} {q:PR}
theorem RtX.gr(h:RtX N w v q)(hg:GrN N w w'): RtX N w' v q:=by
 obtain⟨x,y,e,j,i⟩:=h;exact⟨x,y,e,j.gr hg,i.gr hg⟩
theorem RtX.ext(h:RtX N w v q)(hx:Ext w w'): RtX N w' v q:=h.gr (GrN.ext hx)
theorem RtX.old(h:RtX N w v q)(hN:∀ k,N' k->N k∨w.heap.size<=k): RtX N' w v q:=by
 obtain⟨x,y,e,j,i⟩:=h;exact⟨x,y,e,j.old hN,i.old hN⟩
theorem RtC.sta: Sta RtC:=⟨λh u=>by
 obtain⟨x,y,e,j,i⟩:=h;exact⟨x,y,e,j.gr u,i.gr u⟩,λh D=>by
 obtain⟨x,y,e,j,i⟩:=h;exact⟨x,y,e,j.old D,i.old D⟩⟩
theorem RtX.c(h:RtX N w v q): ∃ cs,v=.agg cs.toArray/\RtC N w cs q:=by
 obtain⟨x,y,e,j,i⟩:=h;exact⟨_,e,x,y,rfl,j,i⟩
theorem RtC.x(h:RtC N w cs q): RtX N w (.agg cs.toArray) q:=by
 obtain⟨x,y,rfl,j,i⟩:=h;exact⟨x,y,rfl,j,i⟩
end
theorem Qdh(h:n≠0): Jk n=32*((Jj n).length-1)+Jk ((Jj n).getD ((Jj n).length-1) 0).toNat:=by
 obtain⟨l,c,y,J⟩:=Jmt h;have Z:c.toNat≠0:=λe=>J (UInt32.toNat_inj.1 e);have j:=Zf n;rw[y,Uj]at j;simp only[Pl.val,Nat.mul_zero,Nat.add_zero]at j;have i:=Jjr l;have D:4294967296^l.length=2^(32*l.length):=by rw[Nat.pow_mul]
 rw[D]at j i;have F:0<2^(32*l.length):=Nat.two_pow_pos _;have U:(Jj n).length-1=l.length:=by rw[y];simp
 have O:(Jj n).getD l.length 0=c:=by rw[y];simp[List.getD]
 rw[U,O];have u:2^(32*l.length)<=n:=by
  have:=Nat.mul_le_mul_left (2^(32*l.length)) (show 1<=c.toNat by omega);omega
 have G:n / 2^(32*l.length)=c.toNat:=by
  rw[<-j,Nat.add_mul_div_left _ _ F,Nat.div_eq_of_lt i,Nat.zero_add]
 rw[Ip u,G]
theorem Yw(hv:NatV w v n)(hs:(Jj n).length<=1000): Ret Tryz.prog 102 [v] w λr w'=>r=.int .i64 (Jk n:Int)/\w'=w:=by
 refine Jz Tryz.func102 Tryz.ntmps102 rfl kr rfl ?_;refine ρ ?_;refine cl (Zs hv) ?_;rintro u w' ⟨⟨A,rfl,i⟩,rfl⟩;refine ρ ?_;refine ci (λh=>?_) (λh=>?_)
 .have h0:n=0:=by
   have:=oT h;rcases Nat.eq_zero_or_pos n with h1|h1
   .exact h1
   have:=limbs_pos' (n:=n) om;omega
  subst h0;refine ρ ?_;exact Jq ⟨rfl,rfl⟩
 have j:0<(Jj n).length:=by
  have:=oF h;omega
 have h0:n≠0:=Jms j;refine ρ ?_;refine ix ((Jj n).length-1) i om ?_;refine ρ ?_;refine ld (i.cell (Xz (show(Jj n).length-1<(Jj n).length by omega))) ?_;refine ρ ?_;refine cl (Qdl _ (UInt32.toNat_lt _) w') ?_;rintro _ w1 ⟨rfl,rfl⟩;have:=Yy (x:=((Jj n).getD ((Jj n).length-1) 0).toNat) (k:=32) (UInt32.toNat_lt _);refine ρ ?_;refine Jq ⟨congrArg (Value.int .i64) ?_,rfl⟩;rw[Qdh h0];omega
abbrev Ol(w:World): Nat->Prop:=λk=>k<w.heap.size
theorem NatX.ol(h:NatX (Ol w1) w' v n)(hx:Ext w w1): NatX (Ol w) w' v n:=h.old λk i=>.inl (nM i hx.size)
theorem RtX.ol(h:RtX (Ol w1) w' v q)(hx:Ext w w1): RtX (Ol w) w' v q:=h.old λk i=>.inl (nM i hx.size)
theorem Fresh.o(h:Fresh w v)(hn:NatV w' v n): NatX (Ol w) w' v n:=h.x hn λ_ i=>i
theorem NatV.one(h:NatV w v n): v.oneCell'=true:=by obtain⟨A,c,rfl,_⟩:=h;rfl
def SF.nx(N:Nat->Prop)(n:Nat): SF:=⟨λv w=>NatX N w v n,λh hx=>h.ext hx⟩
theorem Xn(n:Nat)(h:n<18446744073709551616)(w:World): Ret Tryz.prog 30 [.int .u64 (n:Int)] w λv w'=>NatX (Ol w) w' v n/\Ext w w':=by
 refine Jz Tryz.func30 Tryz.ntmps30 rfl kr rfl ?_;refine ρ ?_;refine Zu rfl rfl (by decide) rfl ?_;refine ρ ?_;refine bsl (bsN _ _) ?_;intro w1 b j y i;rw[Yx,Jfd]at i;have u:Rd w1 1 (some ⟨b,0,none⟩) 2 (Nc [UInt32.ofNat n,UInt32.ofNat (n / 4294967296)]):=i.rd rfl;refine ρ ?_;refine cl (Gv (l:=[UInt32.ofNat n,UInt32.ofNat (n / 4294967296)]) (c:=2) u (nR _) (by simp)) ?_;rintro v w2 ⟨rfl,rfl⟩;have:=Ks u (by simp);rw[Jdw n h]at this ⊢;refine ρ ?_;exact Jq ⟨⟨this,λ_ F _ _ e D=>by grind⟩,j⟩
theorem Il(hv:NatV w v n)(hu:NatV w u m)(hn:(Jj n).length<=1000)(h0:0<m)(hm:m<4294967296):
  Ret Tryz.prog 94 [v,u] w λr w'=>(∃ x y,r=.tuple #[x,y,.int .i64 0]/\NatX (Ol w) w' x (n / m)/\NatX (Ol w) w' y (n % m))/\Ext w w':=by
 have G:Jj m=[UInt32.ofNat m]:=Jmr om hm;refine Jz Tryz.func94 Tryz.ntmps94 rfl kr rfl ?_;refine ρ ?_;refine cl (Zs hv) ?_;rintro v' w' ⟨⟨A,rfl,ha⟩,rfl⟩;refine ρ ?_;refine cl (Zs hu) ?_;rintro u' D ⟨⟨B,rfl,hb⟩,rfl⟩;rw[G]at hb ⊢;refine ρ ?_;refine cl (Jqm (n:=n) (m:=m) ⟨A,_,rfl,Nat.le_refl _,om,ha⟩ ⟨B,1,by rw[G],by rw[G];simp,by rw[G];simp,by rw[G];exact hb⟩) ?_;rintro t w' ⟨rfl,i⟩;refine ρ ?_;refine ci (λh=>?_) (λh=>?_)
 .have a1:n<m:=by
   have:=oT h;unfold Vh at this;grind
  refine ρ ?_;refine cl (Jcf (ha.ext i) (Jwh _) om) ?_;rintro v' w1 ⟨Z,hx⟩;obtain⟨A',c',rfl,hc,hf⟩:=Jy Z;refine ρ ?_;refine fin3 ⟨⟨.slice none 0 0,_,rfl,?_,?_⟩,i.trans hx⟩
  .rw[Nat.div_eq_of_lt a1];exact NatX.nil _
  rw[Nat.mod_eq_of_lt a1];exact⟨⟨A',c',rfl,hc,om,Rd.own Z⟩,λ_ ad m c e hk=>by
   injection e with e1 e2 e3
   subst e1;have:=(hf ad.block rfl).1;have:=i.size;have a5:ad.block<D.heap.size:=hk;omega⟩
 refine ρ ?_;refine cl (Jcf (ha.ext i) (Jwh _) om) ?_;rintro q w1 ⟨Z,U⟩;obtain⟨A',c',rfl,hc,hf⟩:=Jy Z;have a2:=(hb.ext i).ext U;refine ρ ?_;refine ix 0 a2 (by simp) ?_;refine ρ ?_;refine ld (a2.cell (Xz (l:=[UInt32.ofNat m]) (k:=0) (by simp))) ?_;have em:(([UInt32.ofNat m].getD 0 0).toNat:Int)=(m:Int):=by grind [UInt32.ofNat,UInt32.toNat_ofNat',Nat.mod_eq_of_lt]
 rw[em];refine ρ ?_;refine cl (Qgt rfl om Z h0 hm) ?_;rintro r w2 ⟨rfl,⟨os,a3,j,a4⟩,a6⟩;rw[Zf]at j ⊢;have O:Ext D w2:=Js (i.trans U) a6 (λk e=>nL i.size (hf k e).1);have F:=Rd.own a4;rw[<-a3]at F hc ⊢;refine ρ ?_;refine cl (Gv F hc om) ?_;rintro t w3 ⟨rfl,rfl⟩;have:=Ks F om;rw[j]at this ⊢;have hr:n % m<m:=Nat.mod_lt _ h0;refine ρ ?_;rw[Yh om];refine cl (Xn (n % m) om _) ?_;rintro y w4 ⟨hy,J⟩;refine ρ ?_;refine fin3 ⟨⟨_,y,rfl,⟨this.ext J,λ_ ad m c e hk=>?_⟩,hy.ol O⟩,O.trans J⟩;injection e with e1 e2 e3
 subst e1;have:=(hf ad.block rfl).1;have:=i.size;have a5:ad.block<D.heap.size:=hk;omega
theorem Ze: Qu Tryz.prog 84=some (.agg #[.bool false,.slice none 0 0,.slice none 0 0]):=kr
theorem NatV.sl(h:NatV w v n): ∃ A c,v=.slice A (Jj n).length c:=by obtain⟨A,c,e,_⟩:=h;exact⟨A,c,e⟩
theorem Yd(b:Bool)(A B:Option Addr)(m c m' c':Nat)(w:World): (Instr.build 84 #[(0,.bool b),(1,.slice A m c),(2,.slice B m' c')]).run Tryz.prog w=.ok (.agg #[.bool b,.slice A m c,.slice B m' c']) w:=kr
theorem zFnN: Qu Tryz.prog 174=some .nilFunc:=kr
theorem Qfv{x:Value}(hx:NatV w x n)(hy:NatV w y m)(hn:n<18446744073709551616)(hm:m<18446744073709551616)(h0:0<m):
  Ret Tryz.prog 160 [x,y,p] w λr w'=>NatX (Ol w) w' r (Nat.gcd n m)/\Ext w w':=by
 have ln:=Qm hn;have lm:=Qm hm;have hb:=(Gj (x:=m) om).1;refine Jz Tryz.func160 Tryz.ntmps160 rfl kr rfl ?_;refine ρ ?_;refine cl (Yw hy om) ?_;rintro _ w ⟨rfl,rfl⟩;refine ρ ?_;refine cf ?_ ?_
 .simp;omega
 refine ρ ?_;refine cl (Jyj hx hn) ?_;rintro _ w ⟨rfl,rfl⟩;refine ρ ?_;refine cl (Jyj hy hm) ?_;rintro _ w ⟨rfl,rfl⟩;refine ρ ?_;refine Qd (fun (a b:Nat)=>[(0,x),(1,y),(2,p),(6,.int .u64 (a:Int)),(8,.int .u64 (b:Int))]) (λa b w'=>Ext w w'/\a<18446744073709551616/\b<18446744073709551616/\Nat.gcd a b=Nat.gcd n m) (λ_ b=>b) n m sB ⟨Ext.refl _,hn,hm,rfl⟩ ?_;rintro a b w2 ⟨i,U,J,F⟩;refine ρ ?_;refine ci (λh=>?_) (λh=>?_)
 .have j:b≠0:=by intro e;subst e;simp at h
  clear h;have u:Ext w2 w2.drew:=(Ext.refl w2).drew;have G:(b:Int)≠0:=om
  refine ρ ?_;refine dr [(0,0),(0,1),(0,2),(0,3),(0,4),(0,5)] kr ?_;refine ρd ?_;refine drem G ?_;refine ρd ?_;refine ρ ?_;refine Qy b (a % b) ?_ ⟨i.trans u,J,Nat.lt_of_lt_of_le (Nat.mod_lt _ om) om,by rw[<-F,Nat.gcd_comm a b,Nat.gcd_rec b a];exact Nat.gcd_comm _ _⟩ (Nat.mod_lt _ om);have Z:(a:Int).tmod b=((a % b:Nat):Int):=rfl;rw[Z];exact sO
 have j:b=0:=by
  rcases Nat.eq_zero_or_pos b with h1|h1
  .exact h1
  simp at h;omega
 subst j;rw[Nat.gcd_zero_right]at F;subst F;refine ρ ?_;refine cl (Xn _ U w2) ?_;rintro r w3 ⟨O,D⟩;refine ρ ?_;exact Jq ⟨O.ol i,i.trans D⟩
theorem Qhv{x:Value}(hx:NatV w x n)(hy:NatV w y m)(hn:n<18446744073709551616)(hm:m<18446744073709551616)(h0:0<m):
  Ret Tryz.prog 130 [x,y] w λr w'=>NatX (Ol w) w' r (Nat.gcd n m)/\Ext w w':=by
 have lm:=Qm hm;have hl:Jk m<=64:=Yy hm;refine Jz Tryz.func130 Tryz.ntmps130 rfl kr rfl ?_;refine ρ ?_;refine alc zFnN ?_;intro w1 b D O U;refine ρ ?_;refine stb1 U ?_ rfl;intro w2 F J j;have j:Ext w w2:=j w D O;refine ρ ?_;refine Jh (fun (_:Unit)=>[(0,x),(1,y),(5,.pointer (some ⟨b,0,none⟩))]) (λ_ w'=>w'=w2) (λ_=>0) () sB rfl ?_;rintro _ w3 rfl;refine ρ ?_;refine cl (Yw (hy.ext j) om) ?_;rintro _ w4 ⟨rfl,rfl⟩;refine ρ ?_;refine cf ?_ ?_
 .exact dF om
 refine ρ ?_;refine ld (F.at (i:=0) rfl) ?_;refine ρ ?_;refine clv (Qfv (p:=.pointer (some ⟨b,0,none⟩)) (hx.ext j) (hy.ext j) hn hm h0) ?_;rintro r Z ⟨G,u⟩;refine ρ ?_;exact Jq ⟨G.ol j,j.trans u⟩
theorem len0: (((Jj n).length:Int) == 0)=decide (n=0):=by
 by_cases h:n=0
 .subst h;rw[limbs_0];rfl
 have:=limbs_pos' h;rw[decide_eq_false h];exact beq_eq_false_iff_ne.2 om
theorem Qq{b c:Value}{x:Bool}(ha:a=.bool x)(hb:b.oneCell'=true)(hc:c.oneCell'=true): ∀ u∈[a,b,c],u.oneCell'=true:=λu i=>by
 simp only[List.mem_cons,List.not_mem_nil,or_false]at i;rcases i with rfl|rfl|rfl
 .rw[ha];rfl
 .exact hb
 exact hc
theorem RtX.out{w2 w4 w5:World}{x:Value}{b:Bool}(hx:NatX (Ol w2) w4 x q.num)(hy:NatX (Ol w2) w4 y q.den)(hg:w4.grownBy w5 (some b2))(hb:b2<w2.heap.size)(hxw:Ext w w2)(e:b=q.neg): RtX (Ol w) w5 (.agg #[.bool b,x,y]) q:=by
 have i:GrN (Ol w2) w4 w5:=GrN.by hg λk j=>by injection j with j;subst j;exact hb
 exact⟨x,y,by rw[e],(hx.gr i).ol hxw,(hy.gr i).ol hxw⟩
theorem Qft(h:0<m): 0<Nat.gcd n m:=Nat.gcd_pos_of_pos_right _ h
theorem Zh{N:Nat->Prop}(hv:RtX N w v q)(hn:q.num<18446744073709551616)(hd:q.den<4294967296):
  Ret Tryz.prog 93 [v] w λr w'=>RtX (Ol w) w' r q.norm/\Ext w w':=by
 obtain⟨x,y,rfl,⟨hx,_⟩,⟨hy,_⟩⟩:=hv;have ln:=Qm hn;have aj:=Qm (n:=q.den) om;refine Jz Tryz.func93 Tryz.ntmps93 rfl kr rfl ?_;refine ρ ?_;refine bx ?_;intro w1 b1 a4 au a5;refine ρ ?_;refine alc Ze ?_;intro w2 b2 a9 ar a2;have ag:=a2;have G:=a4.trans a9;have a3:Ext w2 w2.drew:=(Ext.refl w2).drew;have a8:=(a5.ext a9).ext a3;refine ρ ?_;refine drH (λ_=>false) ?_;refine Ia (fuel':=4) 14 [(0,0),(0,1),(0,3),(0,4)] #[true,true,false,true,true,false,false,false] kr kr rfl ?_;refine ρd ?_;refine dld (a8.at (i:=1) rfl) ?_;refine ρd ?_;refine dld (a8.at (i:=2) rfl) ?_;refine ρd ?_;refine Ie ?_;refine hmkS 14 2 _ #[true,true,true,true,true,true,false,false] [2,5] [8,11] [SF.nx (Ol w2) q.num,SF.nx (Ol w2) q.den] kr (by rfl) ?_ ?_
 .refine gsc (λvs v1 a6 hd=>?_) ?_
  .simp only[slM];refine cl (Jlw (hx.ext ((G.trans a3).trans a6)) om) ?_;rintro u v2 ⟨h1,h2,h3⟩;exact Qk (Vx h3 ((h2.o h1).ol (a3.trans a6)))
  refine gsc (λvs v1 a6 hd=>?_) gse
  simp only[slM];refine cl (Jlw (hy.ext ((G.trans a3).trans a6)) om) ?_;rintro u v2 ⟨h1,h2,h3⟩;exact Qk (Vx h3 ((h2.o h1).ol (a3.trans a6)))
 intro vs w3 ah hd;have hX:NatX (Ol w2) w3 (vs 0) q.num:=hd 0;have hY:NatX (Ol w2) w3 (vs 1) q.den:=hd 1;simp only[slM];generalize vs 0=x3 at *
 generalize vs 1=y3 at *
 refine Ia (fuel':=0) 14 [(0,6),(0,7)] #[true,true,true,true,true,true,true,true] kr kr rfl ?_;refine ρd ?_;refine Ie ?_;refine Zx kr ?_;have F:=a3.trans ah;have a1:=G.trans F;have a5:=(a5.ext a9).ext F;have a2:=a2.ext F;obtain⟨A,c,ex,aq,ap,ao⟩:=id hX.1;obtain⟨B,d,ey,a7,an,am⟩:=id hY.1;subst ex;subst ey;refine ρ ?_;have J:=ag.lt;rw[len0];refine Go.Wk.ki 15 (λh=>?_) (λh=>?_)
 .have hz:=oT h;clear h;refine ρ ?_;refine ld (a5.at (i:=0) rfl) ?_;refine ρ ?_;have hq:q.norm=⟨false,q.num,1⟩:=by unfold PR.norm;rw[if_pos (.inl hz),hz];simp
  refine Go.Wk.ki 22 (λhs=>?_) (λhs=>?_)
  .refine ρ ?_;refine Go.Wk.kv 26 (u:=.bool false) (congrArg Value.bool ?_) ?_
   .exact dF (by rw[hz,limbs_0];simp)
   refine ρ ?_;refine cl (Xn 1 (by decide) _) ?_;rintro o w4 ⟨ho,j⟩;obtain⟨O,oc,rfl⟩:=ho.1.sl;refine ρ ?_;refine bld (Yd _ _ _ _ _ _ _ _) ?_;refine ρ ?_;refine stb (cs':=[.bool false,.slice A (Jj q.num).length c,.slice O (Jj 1).length oc]) (a2.ext j) ?_ (Qq rfl rfl ho.1.one);intro w5 Z U D;refine ρ ?_;refine Zb Z ⟨?_,D w (a1.trans j) (by have:=a4.size;omega)⟩;rw[hq];exact RtX.out (hX.ext j) (ho.ol F) U J G rfl
  refine ρ ?_;refine cl (Xn 1 (by decide) _) ?_;rintro o w4 ⟨ho,j⟩;obtain⟨O,oc,rfl⟩:=ho.1.sl;refine ρ ?_;refine bld (Yd _ _ _ _ _ _ _ _) ?_;refine ρ ?_;refine stb (cs':=[.bool false,.slice A (Jj q.num).length c,.slice O (Jj 1).length oc]) (a2.ext j) ?_ (Qq rfl rfl ho.1.one);intro w5 Z U D;refine ρ ?_;refine Zb Z ⟨?_,D w (a1.trans j) (by have:=a4.size;omega)⟩;rw[hq];exact RtX.out (hX.ext j) (ho.ol F) U J G rfl
 have hz:=oF h;clear h;refine ρ ?_;rw[len0];refine ci (λh=>?_) (λh=>?_)
 .have ad:=oT h;clear h;refine ρ ?_;refine ld (a5.at (i:=0) rfl) ?_;refine ρ ?_;have hq:q.norm=⟨q.neg,q.num,1⟩:=by unfold PR.norm;rw[if_pos (.inr ad)];simp[hz]
  refine Go.Wk.ki 22 (λhs=>?_) (λhs=>?_)
  .refine ρ ?_;refine Go.Wk.kv 26 (u:=.bool true) (congrArg Value.bool ?_) ?_
   .exact decide_eq_true (by have:=limbs_pos' hz;omega)
   refine ρ ?_;refine cl (Xn 1 (by decide) _) ?_;rintro o w4 ⟨ho,j⟩;obtain⟨O,oc,rfl⟩:=ho.1.sl;refine ρ ?_;refine bld (Yd _ _ _ _ _ _ _ _) ?_;refine ρ ?_;refine stb (cs':=[.bool true,.slice A (Jj q.num).length c,.slice O (Jj 1).length oc]) (a2.ext j) ?_ (Qq rfl rfl ho.1.one);intro w5 Z U D;refine ρ ?_;refine Zb Z ⟨?_,D w (a1.trans j) (by have:=a4.size;omega)⟩;rw[hq];exact RtX.out (hX.ext j) (ho.ol F) U J G hs.symm
  refine ρ ?_;refine cl (Xn 1 (by decide) _) ?_;rintro o w4 ⟨ho,j⟩;obtain⟨O,oc,rfl⟩:=ho.1.sl;refine ρ ?_;refine bld (Yd _ _ _ _ _ _ _ _) ?_;refine ρ ?_;refine stb (cs':=[.bool false,.slice A (Jj q.num).length c,.slice O (Jj 1).length oc]) (a2.ext j) ?_ (Qq rfl rfl ho.1.one);intro w5 Z U D;refine ρ ?_;refine Zb Z ⟨?_,D w (a1.trans j) (by have:=a4.size;omega)⟩;rw[hq];exact RtX.out (hX.ext j) (ho.ol F) U J G hs.symm
 have ad:=oF h;clear h;have hq:q.norm=⟨q.neg,q.num / Nat.gcd q.num q.den,q.den / Nat.gcd q.num q.den⟩:=by unfold PR.norm;rw[if_neg om]
 have ai:=Yy (x:=q.den) (k:=32) om;refine ρ ?_;refine cl (Yw hY.1 om) ?_;rintro _ w3 ⟨rfl,rfl⟩;refine ρ ?_;refine Up (fun (x5 y5:Value)=>[(1,.pointer (some ⟨b1,0,none⟩)),(2,.pointer (some ⟨b2,0,none⟩)),(3,x5),(4,y5)])
  (λx5 y5 w'=>Ext w3 w'/\NatX (Ol w2) w' x5 (q.num / Nat.gcd q.num q.den)/\NatX (Ol w2) w' y5 (q.den / Nat.gcd q.num q.den)) ?_ ?_
 .refine ci (λh=>?_) (λh=>?_)
  .clear h;refine ρ ?_;refine cl (Qhv hX.1 hY.1 hn om om) ?_;rintro g w4 ⟨hg,j⟩;have af:0<Nat.gcd q.num q.den:=Qft om;have ak:Nat.gcd q.num q.den<=q.den:=Nat.le_of_dvd om (Nat.gcd_dvd_right _ _);have aa:=Yy (x:=Nat.gcd q.num q.den) (k:=32) om;refine ρ ?_;refine cl (Yw hg.1 (by have:=Qm (n:=Nat.gcd q.num q.den) om;omega)) ?_;rintro _ w4 ⟨rfl,rfl⟩;refine ρ ?_;refine ci (λh=>?_) (λh=>?_)
   .clear h;refine ρ ?_;refine cl (Il (hX.ext j).1 hg.1 om af om) ?_;rintro _ w5 ⟨⟨a,r,rfl,ha,_⟩,D⟩;refine ρ ?_;refine cl (Il ((hY.ext j).ext D).1 (hg.ext D).1 om af om) ?_;rintro _ w6 ⟨⟨b,r2,rfl,hb,_⟩,ae⟩;refine ρ ?_;exact Xl a b sB ⟨(j.trans D).trans ae,(ha.ol (F.trans j)).ext ae,hb.ol ((F.trans j).trans D)⟩
   have h1:=oF h;have aa:Nat.gcd q.num q.den=1:=by
    have:=Ys (x:=Nat.gcd q.num q.den);have h2:2^Jk (Nat.gcd q.num q.den)<=2^1:=Nat.pow_le_pow_right (by decide) om;omega
   refine ρ ?_;refine Xl _ _ sB ⟨j,?_,?_⟩
   .rw[aa,Nat.div_one];exact hX.ext j
   rw[aa,Nat.div_one];exact hY.ext j
  have h1:=oF h;have a7:q.den=1:=by
   have:=Ys (x:=q.den);have h2:2^Jk q.den<=2^1:=Nat.pow_le_pow_right (by decide) om;omega
  refine ρ ?_;refine Xl _ _ sB ⟨Ext.refl _,?_,?_⟩
  .rw[a7,Nat.gcd_one_right,Nat.div_one];exact hX
  rw[a7,Nat.gcd_one_right,Nat.div_one,<-a7];exact hY
 rintro x5 y5 w4 ⟨j,ac,ab⟩;obtain⟨X5,xc,rfl⟩:=ac.1.sl;obtain⟨Y5,yc,rfl⟩:=ab.1.sl;refine ρ ?_;refine ld ((a5.ext j).at (i:=0) rfl) ?_;refine ρ ?_;refine bld (Yd _ _ _ _ _ _ _ _) ?_;refine ρ ?_;refine stb (cs':=[.bool q.neg,.slice X5 _ xc,.slice Y5 _ yc]) (a2.ext j) ?_ (Qq rfl ac.1.one ab.1.one);intro w5 Z U D;refine ρ ?_;refine Zb Z ⟨?_,D w (a1.trans j) (by have:=a4.size;omega)⟩;rw[hq];exact RtX.out ac ab U J G rfl
end Go.Proofs.YtebiphhfkdbpfaaGreat
namespace Go.Wk
open Go.RowKit
theorem dnbR{P:Program}{n d ty:Nat}{al:AL}{w:World}{ops:Array Oper}{Q:Exit->Act->World->Prop}{drest:List (Nat×Oper)}{pos:String}{aft:Array Edge}{tt:TT}[h:Tab P tt]{t t2:TypeId}{k:TK}{x y:Operand}{p q:Bool}(kk:WD P n ops Q drest ((d,.bool (!(p == q)))::al) w)(ht:tk tt t=some k:=by rfl)(hk:k.desc=.bool:=by rfl)(hx:ev al x=some (.bool p):=by rfl)(hy:ev al y=some (.bool q):=by rfl)(hd:Nat.blt d n=true:=by rfl):
  WD P n ops Q ((0,⟨some d,.binOp .neq t x y t2,ty,pos,aft,none⟩)::drest) al w:=dy (λw' _ a i=>Qzs h.ok ht hk i hx hy (some d) w') hd kk
end Go.Wk
namespace Go.Proofs.YtebiphhfkdbpfaaGreat
open Go.RowKit Pl Go.Wk
attribute [local irreducible] WC WL QX WD WDB WP WN WG WH
variable {B b2 n:Nat}{N N':Nat->Prop}{p q:PR}{u v:Value}{w:World}
theorem bldR2(b:Bool)(A:Option Addr)(m c:Nat)(w:World): (Instr.build 84 #[(0,.bool b),(1,.slice A m c)]).run Tryz.prog w=.ok (.agg #[.bool b,.slice A m c,.slice none 0 0]) w:=kr
theorem bldR1(A:Option Addr)(m c:Nat)(w:World): (Instr.build 84 #[(1,.slice A m c)]).run Tryz.prog w=.ok (.agg #[.bool false,.slice A m c,.slice none 0 0]) w:=kr
theorem RtX.sl{N:Nat->Prop}{w:World}{v:Value}{q:PR}(h:RtX N w v q): ∃ A c B d,v=.agg #[.bool q.neg,.slice A (Jj q.num).length c,.slice B (Jj q.den).length d]/\NatX N w (.slice A (Jj q.num).length c) q.num/\NatX N w (.slice B (Jj q.den).length d) q.den:=by
 obtain⟨x,y,rfl,j,i⟩:=h;obtain⟨A,c,rfl⟩:=j.1.sl;obtain⟨B,d,rfl⟩:=i.1.sl;exact⟨A,c,B,d,rfl,j,i⟩
theorem RtX.box{w2 w4 w5:World}(h:RtX (Ol w2) w4 v q)(hg:w4.grownBy w5 (some b2))(hb:b2<w2.heap.size)(hxw:Ext w w2): RtX (Ol w) w5 v q :=
 (h.gr (GrN.by hg λk i=>by injection i with i;subst i;exact hb)).ol hxw
theorem Qcl(z:Int)(h1:-9223372036854775808<z)(h2:z<9223372036854775808)(w:World): Ret Tryz.prog 122 [.int .i64 z] w λr w'=>NatX (Ol w) w' r z.natAbs/\Ext w w':=by
 refine Jz Tryz.func122 Tryz.ntmps122 rfl kr rfl ?_;refine ρ ?_;refine ci (λh=>?_) (λh=>?_)
 .have y:=oT h;refine ρ ?_;refine Go.Wk.kv 7 (u:=.int .u64 (z.natAbs:Int)) (congrArg (Value.int .u64) ?_) ?_
  .simp only[IntKind.wrap_u64];omega
  refine cl (Xn z.natAbs om w) ?_;rintro r w1 ⟨j,i⟩;refine ρ ?_;exact Jq ⟨j,i⟩
 have y:=oF h;refine ρ ?_;refine Go.Wk.kv 10 (u:=.int .u64 (z.natAbs:Int)) (congrArg (Value.int .u64) ?_) ?_
 .simp only[IntKind.wrap_u64];omega
 refine cl (Xn z.natAbs om w) ?_;rintro r w1 ⟨j,i⟩;refine ρ ?_;exact Jq ⟨j,i⟩
theorem Gl(z:Int)(h1:-9223372036854775808<z)(h2:z<9223372036854775808)(w:World): Ret Tryz.prog 80 [.int .i64 z] w λr w'=>RtX (Ol w) w' r (PR.int z)/\Ext w w':=by
 have hq:PR.norm ⟨decide (z<0),z.natAbs,0⟩=PR.int z:=by
  unfold PR.norm PR.int;rw[if_pos (.inr rfl)];by_cases h:z<0
  .have:z.natAbs≠0:=om
   simp[h,this]
  simp[h]
 refine Jz Tryz.func80 Tryz.ntmps80 rfl kr rfl ?_;refine ρ ?_;refine alc Ze ?_;intro w1 b1 y O D;refine ρ ?_;refine cl (Qcl z h1 h2 w1) ?_;rintro r w2 ⟨Z,i⟩;obtain⟨A,c,rfl⟩:=Z.1.sl;refine ρ ?_;refine bld (bldR2 _ _ _ _ _) ?_;refine ρ ?_;refine cl (Zh (N:=Ol w1) (q:=⟨decide (z<0),z.natAbs,0⟩) ⟨_,_,rfl,Z,NatX.nil _⟩ (by show z.natAbs<_;omega) (show 0<4294967296 by decide)) ?_;rintro u w3 ⟨G,j⟩;rw[hq]at G;obtain⟨A',c',B',d',rfl,a2,a1⟩:=G.sl;refine ρ ?_;refine stb (cs':=[.bool (PR.int z).neg,.slice A' _ c',.slice B' _ d']) ((D.ext i).ext j) ?_ (Qq rfl rfl rfl);intro w4 U J F;refine ρ ?_;exact Zb U ⟨(G.ol i).box J D.lt y,F w ((y.trans i).trans j) O⟩
theorem Qwn(hv:NatV w v n)(hn:n<18446744073709551616): Ret Tryz.prog 100 [v] w λr w'=>RtX (Ol w) w' r (PR.norm ⟨false,n,0⟩)/\Ext w w':=by
 obtain⟨A,c,rfl⟩:=hv.sl;refine Jz Tryz.func100 Tryz.ntmps100 rfl kr rfl ?_;refine ρ ?_;refine alc Ze ?_;intro w1 b1 i G y;refine ρ ?_;refine bld (bldR1 _ _ _ _) ?_;refine ρ ?_;refine cl (Zh (N:=λ_=>False) (q:=⟨false,n,0⟩) ⟨_,_,rfl,⟨hv.ext i,λ_ _ _ _ _ h=>h⟩,NatX.nil _⟩ hn (show 0<4294967296 by decide)) ?_;rintro u w3 ⟨O,j⟩;obtain⟨A',c',B',d',rfl,Z,U⟩:=O.sl;refine ρ ?_;refine stb (cs':=[.bool (PR.norm ⟨false,n,0⟩).neg,.slice A' _ c',.slice B' _ d']) (y.ext j) ?_ (Qq rfl rfl rfl);intro w4 J F D;refine ρ ?_;exact Zb J ⟨O.box F y.lt i,D w (i.trans j) G⟩
theorem Jhh(hv:RtX N w v q)(hn:q.num<18446744073709551616)(hd:q.den<4294967296): Ret Tryz.prog 127 [v] w λr w'=>RtX (Ol w) w' r q.opp/\Ext w w':=by
 obtain⟨A,c,B,d,rfl,hA,hB⟩:=hv.sl;refine Jz Tryz.func127 Tryz.ntmps127 rfl kr rfl ?_;refine ρ ?_;refine bx ?_;intro w1 b1 G a4 y;refine ρ ?_;refine alc Ze ?_;intro w2 b2 F Z J;have y:=y.ext F;refine ρ ?_;refine ld (y.at (i:=0) rfl) ?_;refine ρ ?_;refine ld (y.at (i:=1) rfl) ?_;refine ρ ?_;refine ld (y.at (i:=2) rfl) ?_;refine ρ ?_;refine bld (Yd _ _ _ _ _ _ _ _) ?_;refine ρ ?_;have j:=G.trans F;refine cl (Zh (N:=N) (q:=⟨!q.neg,q.num,q.den⟩) ⟨_,_,rfl,hA.ext j,hB.ext j⟩ hn hd) ?_;rintro u w3 ⟨hu,D⟩;obtain⟨A',c',B',d',rfl,a3,a2⟩:=hu.sl;refine ρ ?_;refine stb (cs':=[.bool (PR.norm ⟨!q.neg,q.num,q.den⟩).neg,.slice A' _ c',.slice B' _ d']) (J.ext D) ?_ (Qq rfl rfl rfl);intro w4 a1 U O;refine ρ ?_;exact Zb a1 ⟨hu.box U J.lt j,O w (j.trans D) (nL G.size Z)⟩
theorem Uk(hv:RtX N w v q)(hn:(Jj q.num).length<=1000): Ret Tryz.prog 90 [v] w λr w'=>r=.int .i64 q.sign/\Ext w w':=by
 obtain⟨A,c,B,d,rfl,F,G⟩:=hv.sl;refine Jz Tryz.func90 Tryz.ntmps90 rfl kr rfl ?_;refine ρ ?_;refine bx ?_;intro w1 J j D u;refine ρ ?_;refine ld (u.at (i:=1) rfl) ?_;refine ρ ?_;refine cl (Yw (F.1.ext j) hn) ?_;rintro _ w1 ⟨rfl,rfl⟩;refine ρ ?_;refine ci (λh=>?_) (λh=>?_)
 .have h0:q.num=0:=by
   rcases Nat.eq_zero_or_pos q.num with h1|h1
   .exact h1
   have:=(Gj (x:=q.num) om).1;have:=eq_of_beq h;omega
  refine ρ ?_;exact Jq ⟨by unfold PR.sign;rw[if_pos h0],j⟩
 have h0:q.num≠0:=λe=>by rw[e]at h;simp[Jk]at h
 refine ρ ?_;refine ld (u.at (i:=0) rfl) ?_;refine ρ ?_;refine ci (λy=>?_) (λy=>?_)
 .refine ρ ?_;exact Jq ⟨by unfold PR.sign;rw[if_neg h0,if_pos y],j⟩
 refine ρ ?_;exact Jq ⟨by unfold PR.sign;rw[if_neg h0,if_neg (by rw[y];decide)],j⟩
theorem Jhj(hv:RtX N w v q)(hN:∀ k,N k->k<w.heap.size)(hn:(Jj q.den).length<=1000): Ret Tryz.prog 157 [v] w λr w'=>NatX N w' r q.dvs/\Ext w w':=by
 obtain⟨A,c,B,d,rfl,O,D⟩:=hv.sl;refine Jz Tryz.func157 Tryz.ntmps157 rfl kr rfl ?_;refine ρ ?_;refine bx ?_;intro w1 U j J u;refine ρ ?_;refine ld (u.at (i:=2) rfl) ?_;refine ρ ?_;refine cl (Yw (D.1.ext j) hn) ?_;rintro _ w1 ⟨rfl,rfl⟩;refine ρ ?_;refine ci (λh=>?_) (λh=>?_)
 .have h0:q.den=0:=by
   rcases Nat.eq_zero_or_pos q.den with h1|h1
   .exact h1
   have:=(Gj (x:=q.den) om).1;have:=eq_of_beq h;omega
  refine ρ ?_;refine cl (Xn 1 (by decide) _) ?_;rintro o w2 ⟨F,y⟩;refine ρ ?_;refine Jq ⟨?_,j.trans y⟩;unfold PR.dvs;rw[if_pos h0];exact(F.ol j).old λk G=>.inl (hN k G)
 have h0:q.den≠0:=λe=>by rw[e]at h;simp[Jk]at h
 refine ρ ?_;refine ld (u.at (i:=2) rfl) ?_;refine ρ ?_;refine Jq ⟨?_,j⟩;unfold PR.dvs;rw[if_neg h0];exact D.ext j
theorem Jzq(h:q.num<B)(h2:1<B): q.norm.num<B:=by
 unfold PR.norm;split
 .exact h
 exact nN (Nat.div_le_self _ _) h
theorem Jzp(h:q.den<B)(h2:1<B): q.norm.den<B:=by
 unfold PR.norm;split
 .exact h2
 exact nN (Nat.div_le_self _ _) h
def SF.rx(N:Nat->Prop)(q:PR): SF:=⟨λv w=>RtX N w v q,λh hx=>h.ext hx⟩
theorem Jvw(hv:RtX N w v p)(hu:RtX N' w u q)(h1:p.num<4294967296)(h2:p.den<4294967296)(h3:q.num<4294967296)(h4:q.den<4294967296)(h5:p.norm.den*q.norm.den<4294967296):
  Ret Tryz.prog 99 [v,u] w λr w'=>RtX (Ol w) w' r (PR.mul p q)/\Ext w w':=by
 obtain⟨A,c,B,d,rfl,hA,hB⟩:=hv.sl;obtain⟨C,e,D,f,rfl,hC,hD⟩:=hu.sl;refine Jz Tryz.func99 Tryz.ntmps99 rfl kr rfl ?_;refine ρ ?_;refine bx ?_;intro w1 b1 ah b6 a6;refine ρ ?_;refine bx ?_;intro w2 b2 a9 b5 a4;refine ρ ?_;refine alc Ze ?_;intro w3 b3 ag b4 ar;have a5:=a6;have au:=a4;have a6:=(a6.ext a9).ext ag;have a4:=a4.ext ag;have ao:=(ah.trans a9).trans ag;refine ρ ?_;have a7:Ext w3 w3.drew:=(Ext.refl w3).drew;have af:=a6.ext a7;have ae:=a4.ext a7;have J:=ao.trans a7;refine drC 14 [] [(0,0),(0,2),(1,1),(1,3),(2,4),(2,5)] kr ?_;refine ρp ?_;refine ρd ?_;refine Qj (cs:=[.bool p.neg,.slice A _ c,.slice B _ d]) (λj u hu=>af.at hu) ?_;refine ρd ?_;refine Qj (cs:=[.bool q.neg,.slice C _ e,.slice D _ f]) (λj u hu=>ae.at hu) ?_;refine ρd ?_;refine dcl (Zh (N:=N) (q:=p) ⟨_,_,rfl,hA.ext J,hB.ext J⟩ om h2) ?_;rintro x4 w4 ⟨b8,G⟩;refine⟨G,?_⟩;refine ρd ?_
 refine dcl (Zh (N:=N') (q:=q) ⟨_,_,rfl,(hC.ext J).ext G,(hD.ext J).ext G⟩ om h4) ?_;rintro y4 w5 ⟨ak,a2⟩;refine⟨a2,?_⟩;have b7:=b8.ext a2;have ak:=ak.ol G;obtain⟨A5,c5,B5,d5,rfl,bi,bg⟩:=b7.sl;obtain⟨C5,e5,D5,f5,rfl,be,bc⟩:=ak.sl;refine ρd ?_;refine Jf ?_;refine stb (cs':=[.bool p.norm.neg,.slice A5 _ c5,.slice B5 _ d5]) ((af.ext G).ext a2) ?_ (Qq rfl rfl rfl);intro w6 aw aj az;refine ρ ?_;refine Qh ?_;refine Jf ?_;have av:Blk w6 b2 _ _:=((ae.ext G).ext a2).grown aj (λe=>by injection e with e;have:=a5.lt;omega);refine stb (cs':=[.bool q.norm.neg,.slice C5 _ e5,.slice D5 _ f5]) av ?_ (Qq rfl rfl rfl);intro w7 O ai ay;refine ρ ?_;have U:Blk w7 b1 _ _:=aw.grown ai (λe=>by injection e with e;have:=a5.lt;omega);have l1:=a6.lt;have l2:=a4.lt;have l3:=ar.lt;have Z:GrN (Ol w3.drew) w5 w7:=(GrN.by aj λk ek=>by injection ek with ek;subst ek;exact l1).trans (GrN.by ai λk ek=>by injection ek with ek;subst ek;exact l2)
 have bh:=bi.gr Z;have bf:=bg.gr Z;have bd:=be.gr Z;have bb:=bc.gr Z;have ac:Ext w w7:=ay w (az w ((J.trans G).trans a2) b6) (nL ah.size b5);have ad:Blk w7 b3 84 [.bool false,.slice none 0 0,.slice none 0 0]:=((((ar.ext a7).ext G).ext a2).grown aj (λe=>by injection e with e;have:=a5.lt;have:=a9.size;omega)).grown ai (λe=>by injection e with e;have:=au.lt;omega);have y:Ext w7 w7.drew:=(Ext.refl w7).drew;have U:=U.ext y;have O:=O.ext y;refine dr [(0,0),(0,1),(0,2),(0,3),(0,4),(0,5),(0,6),(0,7),(0,8),(0,10),(0,11),(0,12),(0,13),(1,9),(1,14),(0,15),(1,16),(2,17)] kr ?_;refine ρd ?_;refine dld (U.at (i:=0) rfl) ?_;refine ρd ?_;refine dld (O.at (i:=0) rfl) ?_;refine ρd ?_;refine dnbR ?_;refine ρd ?_;refine dld (U.at (i:=1) rfl) ?_;refine ρd ?_;refine dld (O.at (i:=1) rfl) ?_;refine ρd ?_;refine dld (U.at (i:=2) rfl) ?_;refine ρd ?_;refine dld (O.at (i:=2) rfl) ?_;refine ρd ?_
 have n1:=Jzq h1 (by decide);have n2:=Jzp h2 (by decide);have n3:=Jzq h3 (by decide);have n4:=Jzp h4 (by decide);have hm:p.norm.num*q.norm.num<18446744073709551616:=by have:=Jyk n1 n3;omega
 refine dcl (Vb (bh.1.ext y) (bd.1.ext y) (by have:=Qm (n:=p.norm.num) om;omega) (by have:=Qm (n:=q.norm.num) om;omega)) ?_;rintro x8 w8 ⟨am,ba,a1⟩;refine⟨a1,?_⟩;have am:=ba.o am;refine ρd ?_;refine dcl (Vb ((bf.1.ext y).ext a1) ((bb.1.ext y).ext a1) (by have:=Qm (n:=p.norm.den) om;omega) (by have:=Qm (n:=q.norm.den) om;omega)) ?_;rintro y9 w9 ⟨aa,b9,a8⟩;refine⟨a8,?_⟩;have aa:=(b9.o aa).ol a1;have aq:=am.ext a8;obtain⟨E,g,rfl⟩:=aq.1.sl;obtain⟨F,g',rfl⟩:=aa.1.sl;refine ρd ?_;refine dbld (Yd _ _ _ _ _ _ _) ?_;refine ρd ?_;refine dcl (Zh (q:=⟨!(p.norm.neg == q.norm.neg),p.norm.num*q.norm.num,p.norm.den*q.norm.den⟩) ⟨_,_,rfl,aq,aa⟩ hm h5) ?_;rintro r bl ⟨hR,ab⟩;refine⟨ab,?_⟩;have e:PR.norm ⟨!(p.norm.neg == q.norm.neg),p.norm.num*q.norm.num,p.norm.den*q.norm.den⟩=PR.mul p q:=rfl;rw[e]at hR;obtain⟨A',c',B',d',rfl,_,_⟩:=hR.sl
 have a3:=((y.trans a1).trans a8).trans ab;refine ρd ?_;refine Jf ?_;refine stb (cs':=[.bool (PR.mul p q).neg,.slice A' _ c',.slice B' _ d']) (ad.ext a3) ?_ (Qq rfl rfl rfl);intro bj ax ap an;refine ρ ?_;exact Zb ax ⟨(hR.ol ((y.trans a1).trans a8)).box ap ad.lt ac,an w (ac.trans a3) (nL (ah.trans a9).size b4)⟩
theorem Qwq(hv:RtX N w v p)(hu:RtX N' w u q)(h1:p.num<4294967296)(h2:p.den<4294967296)(h3:q.num<4294967296)(h4:q.den<4294967296)(h5:p.norm.den*q.norm.den<4294967296)(h6:p.norm.num*q.norm.den+q.norm.num*p.norm.den<18446744073709551616):
  Ret Tryz.prog 179 [v,u] w λr w'=>RtX (Ol w) w' r (PR.add p q)/\Ext w w':=by
 obtain⟨A,c,B,d,rfl,hA,hB⟩:=hv.sl;obtain⟨C,e,D,f,rfl,hC,hD⟩:=hu.sl;refine Jz Tryz.func179 Tryz.ntmps179 rfl kr rfl ?_;refine ρ ?_;refine bx ?_;intro w1 b1 b6 bv a1;refine ρ ?_;refine bx ?_;intro w2 b2 aq bu a6;refine ρ ?_;refine alc Ze ?_;intro w3 b3 b5 bt ae;have am:=a1;have bj:=a6;have a1:=(a1.ext aq).ext b5;have a6:=a6.ext b5;have be:=(b6.trans aq).trans b5;refine ρ ?_;have ap:Ext w3 w3.drew:=(Ext.refl w3).drew;have ay:=a1.ext ap;have aw:=a6.ext ap;have a5:=be.trans ap;refine drC 14 [] [(0,0),(0,2),(1,1),(1,3),(2,4),(2,5)] kr ?_;refine ρp ?_;refine ρd ?_;refine Qj (cs:=[.bool p.neg,.slice A _ c,.slice B _ d]) (λj u hu=>ay.at hu) ?_;refine ρd ?_;refine Qj (cs:=[.bool q.neg,.slice C _ e,.slice D _ f]) (λj u hu=>aw.at hu) ?_;refine ρd ?_;refine dcl (Zh (N:=N) (q:=p) ⟨_,_,rfl,hA.ext a5,hB.ext a5⟩ om h2) ?_;rintro x4 w4 ⟨c0,a3⟩;refine⟨a3,?_⟩
 refine ρd ?_;refine dcl (Zh (N:=N') (q:=q) ⟨_,_,rfl,(hC.ext a5).ext a3,(hD.ext a5).ext a3⟩ om h4) ?_;rintro y4 w5 ⟨ba,ad⟩;refine⟨ad,?_⟩;have bz:=c0.ext ad;have ba:=ba.ol a3;obtain⟨A5,c5,B5,d5,rfl,ca,c8⟩:=bz.sl;obtain⟨C5,e5,D5,f5,rfl,c7,c4⟩:=ba.sl;refine ρd ?_;refine Jf ?_;refine stb (cs':=[.bool p.norm.neg,.slice A5 _ c5,.slice B5 _ d5]) ((ay.ext a3).ext ad) ?_ (Qq rfl rfl rfl);intro w6 bm b8 bs;refine ρ ?_;refine Qh ?_;refine Jf ?_;have bl:Blk w6 b2 _ _:=((aw.ext a3).ext ad).grown b8 (λe=>by injection e with e;have:=am.lt;omega);refine stb (cs':=[.bool q.norm.neg,.slice C5 _ e5,.slice D5 _ f5]) bl ?_ (Qq rfl rfl rfl);intro w7 ak b7 br;refine ρ ?_;have an:Blk w7 b1 _ _:=bm.grown b7 (λe=>by injection e with e;have:=am.lt;omega);have l1:=a1.lt;have l2:=a6.lt;have l3:=ae.lt;have ac:GrN (Ol w3.drew) w5 w7:=(GrN.by b8 λk ek=>by injection ek with ek;subst ek;exact l1).trans (GrN.by b7 λk ek=>by injection ek with ek;subst ek;exact l2)
 have c9:=ca.gr ac;have bi:=c8.gr ac;have c6:=c7.gr ac;have bh:=c4.gr ac;have ab:Ext w w7:=br w (bs w ((a5.trans a3).trans ad) bv) (nL b6.size bu);have au:Blk w7 b3 84 [.bool false,.slice none 0 0,.slice none 0 0]:=((((ae.ext ap).ext a3).ext ad).grown b8 (λe=>by injection e with e;have:=am.lt;have:=aq.size;omega)).grown b7 (λe=>by injection e with e;have:=bj.lt;omega);have O:Ext w7 w7.drew:=(Ext.refl w7).drew;have ax:=an.ext O;have av:=ak.ext O;refine dr [(0,0),(0,1),(0,2),(0,3),(0,5),(0,6),(0,7),(0,8),(1,4),(1,9),(0,10),(0,11)] kr ?_;refine ρd ?_;refine dld (ax.at (i:=1) rfl) ?_;refine ρd ?_;refine dld (av.at (i:=2) rfl) ?_;refine ρd ?_;refine dld (av.at (i:=1) rfl) ?_;refine ρd ?_;refine dld (ax.at (i:=2) rfl) ?_;refine ρd ?_;have n1:=Jzq h1 (by decide);have n2:=Jzp h2 (by decide);have n3:=Jzq h3 (by decide);have n4:=Jzp h4 (by decide);have s1:=Qm (n:=p.norm.num) om
 have s2:=Qm (n:=p.norm.den) om;have s3:=Qm (n:=q.norm.num) om;have s4:=Qm (n:=q.norm.den) om;refine dcl (Vb (c9.1.ext O) (bh.1.ext O) om om) ?_;rintro x8 w8 ⟨bb,c3,a7⟩;refine⟨a7,?_⟩;have bb:=c3.o bb;refine ρd ?_;refine dcl (Vb ((c6.1.ext O).ext a7) ((bi.1.ext O).ext a7) om om) ?_;rintro y9 w9 ⟨b9,c2,ag⟩;refine⟨ag,?_⟩;have b9:=(c2.o b9).ol a7;have bw:=bb.ext ag;have a2:=(O.trans a7).trans ag;refine ρd ?_;refine ρ ?_;refine ld ((an.ext a2).at (i:=2) rfl) ?_;refine ρ ?_;refine ld ((ak.ext a2).at (i:=2) rfl) ?_;refine ρ ?_;refine cl (Vb (bi.1.ext a2) (bh.1.ext a2) om om) ?_;rintro z az ⟨hZ,c1,aa⟩;have hZ:=(c1.o hZ).ol (a7.trans ag);have hX:=bw.ext aa;have hY:=b9.ext aa;have y:=a2.trans aa;have a1:=an.ext y;have a6:=ak.ext y;have ae:=au.ext y;have b4:=au.lt;have ah:=nL (b6.trans aq).size bt
 have a8:=ab.trans y;refine ρ ?_;refine ld (a1.at (i:=0) rfl) ?_;refine ρ ?_;refine ld (a6.at (i:=0) rfl) ?_;refine ρ ?_;refine eqb ?_;refine ρ ?_;obtain⟨Z,zc,rfl⟩:=hZ.1.sl;have cc:=Qm (n:=p.norm.num*q.norm.den) om;have cb:=Qm (n:=q.norm.num*p.norm.den) om;refine ci (λh=>?_) (λh=>?_)
 .have he:p.norm.neg=q.norm.neg:=eq_of_beq h;have eq:PR.norm ⟨p.norm.neg,p.norm.num*q.norm.den+q.norm.num*p.norm.den,p.norm.den*q.norm.den⟩=PR.add p q:=by unfold PR.add PR.addN;rw[if_pos he]
  have af:Ext az az.drew:=(Ext.refl az).drew;refine ρ ?_;refine dr [(0,0),(0,1),(0,2),(0,3),(0,5),(1,4),(0,6),(1,7),(2,8)] kr ?_;refine ρd ?_;refine dld ((a1.ext af).at (i:=0) rfl) ?_;refine ρd ?_;refine dcl (Jlx (hX.1.ext af) (hY.1.ext af) om om) ?_;rintro t bq ⟨hT,bc,G⟩;refine⟨G,?_⟩;have U:=af.trans G;have hT:=(bc.o hT).ol ((((O.trans a7).trans ag).trans aa).trans af);obtain⟨T,tc,rfl⟩:=hT.1.sl;refine ρd ?_;refine dbld (Yd _ _ _ _ _ _ _) ?_;refine ρd ?_;refine dcl (Zh (q:=⟨p.norm.neg,p.norm.num*q.norm.den+q.norm.num*p.norm.den,p.norm.den*q.norm.den⟩) ⟨_,_,rfl,hT,(hZ.ol O).ext U⟩ h6 h5) ?_;rintro r bp ⟨hR,a9⟩;refine⟨a9,?_⟩;rw[eq]at hR;obtain⟨A',c',B',d',rfl,_,_⟩:=hR.sl;have F:=U.trans a9;refine ρd ?_;refine Jf ?_;refine stb (cs':=[.bool (PR.add p q).neg,.slice A' _ c',.slice B' _ d']) (ae.ext F) ?_ (Qq rfl rfl rfl);intro bd bn bf a4;refine ρ ?_
  exact Zb bn ⟨(hR.ol (y.trans U)).box bf b4 ab,a4 w (a8.trans F) ah⟩
 have he:p.norm.neg≠q.norm.neg:=λe=>by rw[e]at h;simp at h
 refine ρ ?_;refine cl (Jlt hX.1 hY.1 om) ?_;rintro _ bq ⟨⟨t,rfl,hT,bc⟩,G⟩;have hT:=(bc.o hT).ol y;refine ρ ?_;by_cases hlt:p.norm.num*q.norm.den<q.norm.num*p.norm.den
 .rw[if_pos hlt];have eq:PR.norm ⟨q.norm.neg,q.norm.num*p.norm.den-p.norm.num*q.norm.den,p.norm.den*q.norm.den⟩=PR.add p q:=by unfold PR.add PR.addN;rw[if_neg he,if_neg om]
  refine ρ ?_;refine cl (Jlt (hY.1.ext G) (hX.1.ext G) om) ?_;rintro _ bp ⟨⟨t2,rfl,ar,bg⟩,a9⟩;have ar:=(bg.o ar).ol (y.trans G);obtain⟨T,tc,rfl⟩:=ar.1.sl;have F:=G.trans a9;refine ρ ?_;refine ld ((a6.ext F).at (i:=0) rfl) ?_;refine ρ ?_;refine bld (Yd _ _ _ _ _ _ _ _) ?_;refine ρ ?_;refine cl (Zh (q:=⟨q.norm.neg,q.norm.num*p.norm.den-p.norm.num*q.norm.den,p.norm.den*q.norm.den⟩) ⟨_,_,rfl,ar,(hZ.ol O).ext F⟩ (by show q.norm.num*p.norm.den-_<_;omega) h5) ?_;rintro r bd ⟨hR,a4⟩;rw[eq]at hR;obtain⟨A',c',B',d',rfl,_,_⟩:=hR.sl;have J:=F.trans a4;refine ρ ?_;refine stb (cs':=[.bool (PR.add p q).neg,.slice A' _ c',.slice B' _ d']) (ae.ext J) ?_ (Qq rfl rfl rfl);intro bo ao aj ai;refine ρ ?_;exact Zb ao ⟨(hR.ol (y.trans F)).box aj b4 ab,ai w (a8.trans J) ah⟩
 rw[if_neg hlt];have eq:PR.norm ⟨p.norm.neg,p.norm.num*q.norm.den-q.norm.num*p.norm.den,p.norm.den*q.norm.den⟩=PR.add p q:=by unfold PR.add PR.addN;rw[if_neg he,if_pos om]
 obtain⟨T,tc,rfl⟩:=hT.1.sl;refine ρ ?_;refine ld ((a1.ext G).at (i:=0) rfl) ?_;refine ρ ?_;refine bld (Yd _ _ _ _ _ _ _ _) ?_;refine ρ ?_;refine cl (Zh (q:=⟨p.norm.neg,p.norm.num*q.norm.den-q.norm.num*p.norm.den,p.norm.den*q.norm.den⟩) ⟨_,_,rfl,hT,(hZ.ol O).ext G⟩ (by show p.norm.num*q.norm.den-_<_;omega) h5) ?_;rintro r bd ⟨hR,a4⟩;rw[eq]at hR;obtain⟨A',c',B',d',rfl,_,_⟩:=hR.sl;have J:=G.trans a4;refine ρ ?_;refine stb (cs':=[.bool (PR.add p q).neg,.slice A' _ c',.slice B' _ d']) (ae.ext J) ?_ (Qq rfl rfl rfl);intro bo ao aj ai;refine ρ ?_;exact Zb ao ⟨(hR.ol (y.trans G)).box aj b4 ab,ai w (a8.trans J) ah⟩
open Go.RowKit Pl Go.Wk
variable {N N':Nat->Prop}{p q:PR}{u v:Value}{w:World}
theorem Uu(q:PR): q.norm.num<=q.num:=by
 unfold PR.norm;split
 .exact nR _
 exact Nat.div_le_self _ _
theorem Vt(h:q.den≠0): q.norm.den<=q.den:=by
 unfold PR.norm;split
 .show 1<=q.den;omega
 exact Nat.div_le_self _ _
structure Sm(p q:PR): Prop where
 p0:p.den≠0
 q0:q.den≠0
 pn:p.num<4294967296
 qn:q.num<4294967296
 d:p.den*q.den<4294967296
 s:p.num*q.den+q.num*p.den<18446744073709551616
theorem Sm.pd(h:Sm p q): p.den<4294967296:=nN (Nat.le_mul_of_pos_right _ (Nat.pos_of_ne_zero h.q0)) h.d
theorem Sm.qd(h:Sm p q): q.den<4294967296:=nN (Nat.le_mul_of_pos_left _ (Nat.pos_of_ne_zero h.p0)) h.d
theorem Sm.le{p' q':PR}(h:Sm p q)(h1:p'.num<=p.num)(h2:p'.den<=p.den)(h3:q'.num<=q.num)(h4:q'.den<=q.den)(h5:p'.den≠0)(h6:q'.den≠0): Sm p' q':=by
 have a:=h.pn;have b:=h.qn;refine⟨h5,h6,om,om,Nat.lt_of_le_of_lt (Nat.mul_le_mul h2 h4) h.d,Nat.lt_of_le_of_lt (Nat.add_le_add (Nat.mul_le_mul h1 h4) (Nat.mul_le_mul h3 h2)) h.s⟩
theorem Sm.nrm(h:Sm p q): Sm p.norm q.norm:=h.le (Uu _) (Vt h.p0) (Uu _) (Vt h.q0) (PR.norm_val h.p0).2 (PR.norm_val h.q0).2
theorem Qwm(hv:RtX N w v p)(hu:RtX N' w u q)(h:Sm p q):
  Ret Tryz.prog 159 [v,u] w λr w'=>RtX (Ol w) w' r (PR.sub p q)/\Ext w w':=by
 have ho:Sm p q.opp:=h.le (nR _) (nR _) (Uu ⟨!q.neg,q.num,q.den⟩) (Vt (q:=⟨!q.neg,q.num,q.den⟩) h.q0) h.p0 (PR.opp_val h.q0).2;have hn:=ho.nrm;have a9:=h.pd;have a7:=h.qd;have a8:=h.pn;have af:=h.qn;have ab:=ho.qd;have aa:=ho.qn;obtain⟨A,c,B,d,rfl,hA,hB⟩:=hv.sl;obtain⟨C,e,D,f,rfl,hC,hD⟩:=hu.sl;refine Jz Tryz.func159 Tryz.ntmps159 rfl kr rfl ?_;refine ρ ?_;refine bx ?_;intro w1 b1 a4 ah a2;refine ρ ?_;refine bx ?_;intro w2 b2 Z ag a1;refine ρ ?_;refine alc Ze ?_;intro w3 b3 U ad a5;have J:=(a4.trans Z).trans U;have F:Ext w3 w3.drew:=(Ext.refl w3).drew;have a2:=((a2.ext Z).ext U).ext F;have a1:=(a1.ext U).ext F;have i:=J.trans F;refine ρ ?_;refine dr [(0,0),(0,1),(1,2),(1,3),(2,4)] kr ?_;refine ρd ?_;refine Qj (cs:=[.bool p.neg,.slice A _ c,.slice B _ d]) (λj u hu=>a2.at hu) ?_;refine ρd ?_;refine Qj (cs:=[.bool q.neg,.slice C _ e,.slice D _ f]) (λj u hu=>a1.at hu) ?_
 refine ρd ?_;refine dcl (Jhh (N:=N') (q:=q) ⟨_,_,rfl,hC.ext i,hD.ext i⟩ om a7) ?_;rintro y w4 ⟨hY,G⟩;refine⟨G,?_⟩;refine ρd ?_;refine dcl (Qwq (N:=N) (p:=p) (q:=q.opp) ⟨_,_,rfl,(hA.ext i).ext G,(hB.ext i).ext G⟩ hY a8 a9 aa ab hn.d hn.s) ?_;rintro r w5 ⟨hR,a3⟩;refine⟨a3,?_⟩;obtain⟨A',c',B',d',rfl,_,_⟩:=hR.sl;have O:=(F.trans G).trans a3;refine ρd ?_;refine Jf ?_;refine stb (cs':=[.bool (PR.add p q.opp).neg,.slice A' _ c',.slice B' _ d']) (a5.ext O) ?_ (Qq rfl rfl rfl);intro w6 ae ac a6;refine ρ ?_;exact Zb ae ⟨(hR.ol (F.trans G)).box ac a5.lt J,a6 w (J.trans O) (nL (a4.trans Z).size ad)⟩
theorem Jhk(hv:RtX N w v p)(hu:RtX N' w u q)(h0:q.norm.num≠0)(hp0:p.den≠0)(hq0:q.den≠0)(h1:p.num<4294967296)(h2:p.den<4294967296)(h3:q.num<4294967296)(h4:q.den<4294967296)(h5:p.den*q.num<4294967296):
  Ret Tryz.prog 158 [v,u] w λr w'=>(∃ x,r=.tuple #[x,.int .i64 0]/\RtX (Ol w) w' x (PR.div p q))/\Ext w w':=by
 have a1:=Uu q;have a2:=Vt hq0;have a3:=Vt hp0;have a4:=Vt (q:=⟨q.norm.neg,q.norm.den,q.norm.num⟩) h0;obtain⟨A,c,B,d,rfl,hA,hB⟩:=hv.sl;obtain⟨C,e,D,f,rfl,hC,hD⟩:=hu.sl;refine Jz Tryz.func158 Tryz.ntmps158 rfl kr rfl ?_;refine ρ ?_;refine bx ?_;intro w1 b1 a8 an U;refine ρ ?_;refine bx ?_;intro w2 b2 a7 aj G;refine ρ ?_;refine alc Ze ?_;intro w3 b3 a6 ai am;have J:=(a8.trans a7).trans a6;have l1:=U.lt;have l2:=G.lt;have U:=(U.ext a7).ext a6;have G:=G.ext a6;refine ρ ?_;refine ldW G ?_;refine ρ ?_;refine cl (Zh (N:=N') (q:=q) ⟨_,_,rfl,hC.ext J,hD.ext J⟩ om h4) ?_;rintro y w4 ⟨hY,O⟩;obtain⟨C5,e5,D5,f5,rfl,ab,aa⟩:=hY.sl;refine ρ ?_;refine stb (cs':=[.bool q.norm.neg,.slice C5 _ e5,.slice D5 _ f5]) (G.ext O) ?_ (Qq rfl rfl rfl);intro w5 F a9 ag;have ae:=G.lt;have Z:GrN (Ol w3) w4 w5:=GrN.by a9 λk ek=>by injection ek with ek;subst ek;exact ae
 have ab:=ab.gr Z;have aa:=aa.gr Z;have j:Ext w w5:=ag w (J.trans O) (nL a8.size aj);have ad:Blk w5 b1 _ _:=(U.ext O).grown a9 (λe=>by injection e with e;omega);have a5:Blk w5 b3 _ _:=(am.ext O).grown a9 (λe=>by injection e with e;omega);refine ρ ?_;refine ld (F.at (i:=1) rfl) ?_;refine ρ ?_;rw[len0,decide_eq_false h0];refine ρ ?_;refine ldW ad ?_;refine ρ ?_;refine ld (F.at (i:=0) rfl) ?_;refine ρ ?_;refine ld (F.at (i:=2) rfl) ?_;refine ρ ?_;refine ld (F.at (i:=1) rfl) ?_;refine ρ ?_;refine bld (Yd _ _ _ _ _ _ _ _) ?_;refine ρ ?_;refine cl (Jvw (N:=N) (p:=p) (q:=⟨q.norm.neg,q.norm.den,q.norm.num⟩) ⟨_,_,rfl,hA.ext j,hB.ext j⟩ ⟨_,_,rfl,aa,ab⟩ h1 h2 (by show q.norm.den<_;omega) (by show q.norm.num<_;omega) (nN (Nat.mul_le_mul a3 (nL a4 a1)) h5)) ?_;rintro r w6 ⟨hR,ac⟩;have eq:PR.mul p ⟨q.norm.neg,q.norm.den,q.norm.num⟩=PR.div p q:=by unfold PR.div;rw[if_neg h0]
 rw[eq]at hR;obtain⟨A',c',B',d',rfl,_,_⟩:=hR.sl;refine ρ ?_;refine stb (cs':=[.bool (PR.div p q).neg,.slice A' _ c',.slice B' _ d']) (a5.ext ac) ?_ (Qq rfl rfl rfl);intro w7 ak ah af;refine ρ ?_;exact Zz ak ⟨⟨_,rfl,hR.box ah a5.lt j⟩,af w (j.trans ac) (nL (a8.trans a7).size ai)⟩
theorem Qwp(hv:RtX N w v p)(hu:RtX N' w u q)(hN:∀ k,N k->k<w.heap.size)(hN':∀ k,N' k->k<w.heap.size)(h1:p.num<4294967296)(h2:p.den<4294967296)(h3:q.num<4294967296)(h4:q.den<4294967296):
  Ret Tryz.prog 125 [v,u] w λr w'=>r=.int .i64 (PR.cmp p q)/\Ext w w':=by
 have s1:=Qm (n:=p.num) om;have s2:=Qm (n:=p.den) om;have s3:=Qm (n:=q.num) om;have s4:=Qm (n:=q.den) om;have t2:p.dvs<4294967296:=by unfold PR.dvs;split<;>omega
 have t4:q.dvs<4294967296:=by unfold PR.dvs;split<;>omega
 have s5:=Qm (n:=p.dvs) om;have s6:=Qm (n:=q.dvs) om;obtain⟨A,c,B,d,rfl,hA,hB⟩:=id hv.sl;obtain⟨C,e,D,f,rfl,hC,hD⟩:=id hu.sl;refine Jz Tryz.func125 Tryz.ntmps125 rfl kr rfl ?_;refine ρ ?_;refine bx ?_;intro w1 b1 ad aj G;refine ρ ?_;refine bx ?_;intro w2 b2 ab ai Z;have O:=ad.trans ab;have G:=G.ext ab;refine ρ ?_;refine ldW G ?_;refine ρ ?_;refine cl (Uk (hv.ext O) om) ?_;rintro _ w3 ⟨rfl,a7⟩;refine ρ ?_;refine ldW (Z.ext a7) ?_;refine ρ ?_;refine cl (Uk ((hu.ext O).ext a7) om) ?_;rintro _ w4 ⟨rfl,ac⟩;have J:=a7.trans ac;have a1:=O.trans J;have G:=G.ext J;have Z:=Z.ext J;refine ρ ?_;refine ci (λh=>?_) (λh=>?_)
 .have a8:p.sign≠q.sign:=by simpa using h
  refine ρ ?_;refine cl (Jbw _ _ _) ?_;rintro _ w5 ⟨rfl,rfl⟩;refine ρ ?_;refine Jq ⟨?_,a1⟩;unfold PR.cmp sgn;rw[if_pos a8];congr 1
  split
  .rfl
  rw[if_pos om]
 have a8:¬ p.sign≠q.sign:=by simpa using h
 have a4:Ext w4 w4.drew:=(Ext.refl w4).drew;have a3:=G.ext a4;have a2:=Z.ext a4;have y:=a1.trans a4;refine ρ ?_;refine dr [(0,0),(0,1),(0,2),(0,3),(0,6),(0,7),(0,8),(1,4),(1,5),(1,9),(1,10),(1,11),(0,12),(0,13)] kr ?_;refine ρd ?_;refine dld (a3.at (i:=1) rfl) ?_;refine ρd ?_;refine Qj (cs:=[.bool q.neg,.slice C _ e,.slice D _ f]) (λj u hu=>a2.at hu) ?_;refine ρd ?_;refine dld (a2.at (i:=1) rfl) ?_;refine ρd ?_;refine Qj (cs:=[.bool p.neg,.slice A _ c,.slice B _ d]) (λj u hu=>a3.at hu) ?_;refine ρd ?_;refine dcl (Jhj (hu.ext y) (λk hk=>nM (hN' k hk) y.size) om) ?_;rintro x5 w5 ⟨ah,a6⟩;refine⟨a6,?_⟩;refine ρd ?_;refine dcl (Vb ((hA.1.ext y).ext a6) ah.1 om om) ?_;rintro x6 w6 ⟨ag,_,aa⟩;refine⟨aa,?_⟩;have F:=(y.trans a6).trans aa;refine ρd ?_;refine dcl (Jhj (hv.ext F) (λk hk=>nM (hN k hk) F.size) om) ?_
 rintro x7 w7 ⟨af,U⟩;refine⟨U,?_⟩;refine ρd ?_;refine dcl (Vb ((hC.1.ext F).ext U) af.1 om om) ?_;rintro x8 w8 ⟨ae,_,a5⟩;refine⟨a5,?_⟩;refine ρd ?_;refine dcl (Jqm ((ag.ext U).ext a5) ae) ?_;rintro _ w9 ⟨rfl,a9⟩;refine⟨a9,?_⟩;refine ρd ?_;refine ρ ?_;refine Jq ⟨congrArg (Value.int .i64) ?_,((F.trans U).trans a5).trans a9⟩;unfold PR.cmp Vh;rw[if_neg a8];have e:(if p.num*q.dvs<q.num*p.dvs then(-1:Int) else if q.num*p.dvs<p.num*q.dvs then 1 else 0)=if p.num*q.dvs<q.num*p.dvs then -1 else if p.num*q.dvs=q.num*p.dvs then 0 else 1:=by
  split
  .rfl
  split
  .rw[if_neg om]
  rw[if_pos om]
 rw[e];have h3:(if p.num*q.dvs<q.num*p.dvs then(-1:Int) else if p.num*q.dvs=q.num*p.dvs then 0 else 1) = -1∨(if p.num*q.dvs<q.num*p.dvs then(-1:Int) else if p.num*q.dvs=q.num*p.dvs then 0 else 1)=0∨(if p.num*q.dvs<q.num*p.dvs then(-1:Int) else if p.num*q.dvs=q.num*p.dvs then 0 else 1)=1:=by
  split
  .exact .inl rfl
  split
  .exact .inr (.inl rfl)
  exact .inr (.inr rfl)
 have h4:p.sign=0∨p.sign = -1∨p.sign=1:=by
  unfold PR.sign;split
  .exact .inl rfl
  split
  .exact .inr (.inl rfl)
  exact .inr (.inr rfl)
 rcases h3 with h3|h3|h3<;>rcases h4 with h4|h4|h4<;>rw[h3,h4]<;>decide
open Go.RowKit Pl Go.Wk
variable {d k n ty:Nat}{N:Nat->Prop}{a b f p q:PR}{α:Type}{fv ov rv v:Value}{w:World}
theorem ERt: ElT Tryz.prog 80 84 3 56 (.agg #[.bool false,.slice none 0 0,.slice none 0 0]):=⟨Tryz.underlying80,info_parts kr,rfl,by decide⟩
def prz: PR:=⟨false,0,0⟩
theorem rtc0(N:Nat->Prop)(w:World): RtC N w [.bool false,.slice none 0 0,.slice none 0 0] prz:=⟨_,_,rfl,NatX.nil w,NatX.nil w⟩
theorem Qfx(n:Nat)(p:List Value×α): Jd (List.replicate n p)=Yt n λ_=>p.1:=by
 induction n with
 | zero=>rfl
 | succ n ih=>
  rw[List.replicate_succ'];have e:Jd (List.replicate n p++[p])=Jd (List.replicate n p)++p.1:=by simp[Jd]
  rw[e,ih];simp[Yt,List.range_succ,List.flatMap_append]
theorem mkRt{al:AL}{Q:Exit->Act->World->Prop}{ops:Array Oper}{rest:List Oper}{pos:String}{aft:Array Edge}{x y:Operand}(m:Nat)(hm:m<=1000)(kk:∀ w1 A,Ext w w1->(∀ N,OX 84 3 RtC N w1 w.heap.size (.slice A m m) (List.replicate m prz))->(∀ g,A=some g->w.heap.size<=g.block)->WL Tryz.prog n ops Q rest ((d,.slice A m m)::al) w1)(hx:ev al x=some (.int .i64 (m:Int)):=by rfl)(hy:ev al y=some (.int .i64 (m:Int)):=by rfl)(hd:Nat.blt d n=true:=by rfl):
  WL Tryz.prog n ops Q (⟨some d,.makeSlice 80 x y,ty,pos,aft,none⟩::rest) al w:=by
 refine mkn ERt m om (by unfold maxLen;omega) ?_ hx hy rfl rfl hd;intro w1 A i u D;refine kk w1 A i (λN=>⟨List.replicate m ([.bool false,.slice none 0 0,.slice none 0 0],prz),by simp,?_,λp j=>?_⟩) D
 .rw[List.length_replicate,Qfx];have e:(madeCells (Value.agg #[.bool false,.slice none 0 0,.slice none 0 0]).cells (m*3)).toList=Yt m λ_=>[.bool false,.slice none 0 0,.slice none 0 0]:=Qcm (zs:=[.bool false,.slice none 0 0,.slice none 0 0]) (by simp) m;rw[<-e];exact u
 rw[List.eq_of_mem_replicate j];exact⟨rfl,rtc0 N w1⟩
def mix(l' l:List α)(k:Nat): List α:=l'.take k++l.drop k
theorem Uh{l' l:List α}(h:l'.length=l.length)(hk:k<=l.length): (mix l' l k).length=l.length:=by
 simp[mix,h];omega
theorem Jzt{l' l:List α}(h:l'.length=l.length)(hk:k<l.length): (mix l' l k)[k]?=l[k]?:=by
 rw[mix,List.getElem?_append_right (by simp;omega),List.length_take,Nat.min_eq_left om,Nat.sub_self,List.getElem?_drop,Nat.add_zero]
theorem Ug{l' l:List α}(h:l'.length=l.length)(hk:k<l.length){x:α}(hx:l'[k]?=some x): (mix l' l k).set k x=mix l' l (k+1):=by
 have j:l'.take (k+1)=l'.take k++[x]:=by rw[List.take_add_one,hx];rfl
 have i:l.drop k=l[k]::l.drop (k+1):=List.drop_eq_getElem_cons hk;rw[mix,mix,j,i,List.set_append_right _ _ (by simp;omega),List.length_take,Nat.min_eq_left om,Nat.sub_self,List.set_cons_zero,List.append_assoc];rfl
theorem Jyl{l' l:List α}(h:l'.length=l.length)(hk:k<l.length)(hx:l'[k]?=l[k]?): mix l' l k=mix l' l (k+1):=by
 rw[<-Ug h hk (x:=l[k]) (by rw[hx];exact gE hk)];refine List.ext_getElem? λi=>?_;by_cases e:k=i
 .subst e;rw[List.getElem?_set_self (by rw[Uh h om];exact hk),Jzt h hk,List.getElem?_eq_getElem hk]
 rw[List.getElem?_set_ne e]
theorem Gt(l' l:List α): mix l' l 0=l:=by simp[mix]
theorem Jqn{l' l:List α}(h:l'.length=l.length): mix l' l l.length=l':=by simp[mix,<-h]
theorem RtX.cell(h:RtX N w v q): ∃ A c B d,v=.agg #[.bool q.neg,.slice A (Jj q.num).length c,.slice B (Jj q.den).length d]/\RtC N w [.bool q.neg,.slice A (Jj q.num).length c,.slice B (Jj q.den).length d] q:=by
 obtain⟨A,c,B,d,e,j,i⟩:=h.sl;exact⟨A,c,B,d,e,_,_,rfl,j,i⟩
theorem RtC.sl{N:Nat->Prop}{w:World}{cs:List Value}{q:PR}(h:RtC N w cs q): ∃ A c B d,cs=[.bool q.neg,.slice A (Jj q.num).length c,.slice B (Jj q.den).length d]/\RtX N w (.agg #[.bool q.neg,.slice A (Jj q.num).length c,.slice B (Jj q.den).length d]) q:=by
 obtain⟨x,y,e,j,i⟩:=h;obtain⟨A,c,rfl⟩:=j.1.sl;obtain⟨B,d,rfl⟩:=i.1.sl;exact⟨A,c,B,d,e,_,_,rfl,j,i⟩
theorem RtC.one(cs:List Value)(q:PR)(h:RtC N w cs q): ∀ u∈cs,u.oneCell'=true:=by
 obtain⟨A,c,B,d,rfl,_⟩:=h.sl;exact Qq rfl rfl rfl
abbrev Ov(w:World)(v:Value): Nat->Prop:=λk=>k<w.heap.size∨v.ownBlock=some k
theorem Jxh(n:Nat)(hn:n<=1000)(w:World): Ret Tryz.prog 123 [.int .i64 (n:Int)] w λu w'=>OX 84 3 RtC (Ov w u) w' w.heap.size u (List.replicate n pr0)/\Ext w w':=by
 refine Jz Tryz.func123 Tryz.ntmps123 rfl kr rfl ?_;refine ρ ?_;refine mkRt n hn ?_;intro w1 A a2 hO hA;have hO:=hO (Ov w (.slice A n n));refine ρ ?_;refine Jh (fun (k:Nat)=>[(3,.slice A n n),(8,.int .i64 (n:Int)),(9,.int .i64 (k:Int))]) (λk w'=>k<=n/\Ext w w'/\OX 84 3 RtC (Ov w (.slice A n n)) w' w.heap.size (.slice A n n) (mix (List.replicate n pr0) (List.replicate n prz) k)) (λk=>n-k) 0 sB ⟨Nat.zero_le _,a2,by rw[Gt];exact hO⟩ ?_;rintro k w2 ⟨hk,y,i⟩;have U:(mix (List.replicate n pr0) (List.replicate n prz) k).length=n:=by rw[Uh (by simp) (by simpa using hk)];simp
 refine ρ ?_;refine ci (λh=>?_) (λh=>?_)
 .have F:k<n:=by have:=oT h;omega
  clear h;refine ρ ?_;refine cl (Gl 0 (by decide) (by decide) w2) ?_;rintro r w3 ⟨hr,J⟩;have e0:PR.int 0=pr0:=rfl;rw[e0]at hr;obtain⟨C,e,D,f,rfl,hc⟩:=hr.cell;have G:=i.ext RtC.sta J;obtain⟨A',c',cs,ev,_,O,_⟩:=id G.el;rw[U]at ev O;injection ev with ev1 ev2 ev3
  subst ev1;refine ρ ?_;refine ixq 3 k O F ?_;refine ρ ?_;obtain⟨_,_,_,_,a3⟩:=id G.form;have a5:k<(mix (List.replicate n pr0) (List.replicate n prz) k).length:=om
  refine stX RtC.sta G U.symm a5 (cs:=[.bool pr0.neg,.slice C _ e,.slice D _ f]) (a:=pr0) (RtC.sta.old hc λj Z=>.inl ?_) (λg hg=>.inr hg) (Qq rfl rfl rfl) ?_
  .rcases Z with Z|Z
   .exact nM Z y.size
   obtain⟨_,_,_,_,h3⟩:=id i.form;exact(h3 j Z).2
  intro w4 a1 a6;rw[Ug (l':=List.replicate n pr0) (l:=List.replicate n prz) (x:=pr0) (by simp) (by simpa using F) (by simp[F])]at a1;refine ρ ?_;exact Jg (k+1) sO ⟨om,Js (y.trans J) a6 (λg hg=>(a3 g hg).1),a1⟩ om
 have a4:k=n:=by have:=oF h;omega
 subst a4;have e:=Jqn (l':=List.replicate k pr0) (l:=List.replicate k prz) (by simp);rw[List.length_replicate]at e;rw[e]at i;refine ρ ?_;exact Jq ⟨i,y⟩
structure Sl(q:PR): Prop where
 d0:q.den≠0
 n:q.num<=720
 d:q.den<=120
theorem mul_le'(hp:p.den≠0)(hq:q.den≠0): (PR.mul p q).num<=p.num*q.num/\(PR.mul p q).den<=p.den*q.den:=by
 have j:=(PR.norm_val hp).2;have i:=(PR.norm_val hq).2;refine⟨nL (Uu ⟨p.norm.neg != q.norm.neg,p.norm.num*q.norm.num,p.norm.den*q.norm.den⟩) (Nat.mul_le_mul (Uu p) (Uu q)),Nat.le_trans (Vt (q:=⟨p.norm.neg != q.norm.neg,p.norm.num*q.norm.num,p.norm.den*q.norm.den⟩) (Nat.mul_ne_zero j i)) (Nat.mul_le_mul (Vt hp) (Vt hq))⟩
theorem Sl.sm(ha:Sl a)(hf:Sl f)(hb:Sl b): Sm a (PR.mul f b):=by
 obtain⟨G,F⟩:=mul_le' hf.d0 hb.d0;have D:f.num*b.num<=720*720:=Nat.mul_le_mul hf.n hb.n;have y:f.den*b.den<=120*120:=Nat.mul_le_mul hf.d hb.d;have u:a.den*(PR.mul f b).den<=120*14400:=Nat.mul_le_mul ha.d om;have j:a.num*(PR.mul f b).den<=720*14400:=Nat.mul_le_mul ha.n om;have i:(PR.mul f b).num*a.den<=518400*120:=Nat.mul_le_mul om ha.d;have:=ha.n;exact⟨ha.d0,(PR.mul_val hf.d0 hb.d0).2,om,om,om,om⟩
theorem Sl.mm(hf:Sl f)(hb:Sl b): f.norm.den*b.norm.den<4294967296:=by
 have i:f.norm.den*b.norm.den<=120*120:=Nat.mul_le_mul (nL (Vt hf.d0) hf.d) (nL (Vt hb.d0) hb.d);omega
theorem Sl.len(h:Sl q): (Jj q.num).length<=1000:=by have:=Qm (n:=q.num) (by have:=h.n;omega);omega
def Vl(f a b:PR): PR:=if b.sign≠0 then PR.sub a (PR.mul f b) else a
theorem Jrd{row other:List PR}(hr:GX 3 RtC N w rv row)(ho:GX 3 RtC N w ov other)(hf:RtX N w fv f)(hN:∀ k,N k->k<w.heap.size)(hl:other.length=row.length)(h0:0<row.length)(hm:row.length<=1000)(hs:∀ q∈row,Sl q)(hs2:∀ q∈other,Sl q)(hsf:Sl f): Ret Tryz.prog 128 [rv,ov,fv] w λu w'=>GX 3 RtC N w' u (Xe row other f)/\Ext w w':=by
 obtain⟨A,c,_,rfl,hc,_,_,_,_⟩:=id hr.el;obtain⟨B,d,_,rfl,hd,_,_,_,_⟩:=id ho.el;obtain⟨C,e,D,g,rfl,hC,hD⟩:=id hf.sl;refine Jz Tryz.func128 Tryz.ntmps128 rfl kr rfl ?_;refine ρ ?_;refine bx ?_;intro w1 b1 ap bt aj;refine ρ ?_;refine mkRt row.length hm ?_;intro w2 O ao hO ag;have hO:=hO (λk=>N k∨(Value.slice O row.length row.length).ownBlock=some k);have a9:=ap.trans ao;have a3:∀ {k},(Value.slice O row.length row.length).ownBlock=some k->w.heap.size<=k:=fun {k} h=>by
  cases O with
  | none=>cases h
  | some ad=>injection h with h;subst h;exact nL ap.size (ag ad rfl)
 have ah:∀ k,(N k∨(Value.slice O row.length row.length).ownBlock=some k)->N k∨w.heap.size<=k:=λk y=>y.elim .inl λh=>.inr (a3 h);have hr:=hr.old RtC.sta (by decide) ah;have ho:=ho.old RtC.sta (by decide) ah;have hf:=hf.old ah;generalize hM:(λk=>N k∨(Value.slice O row.length row.length).ownBlock=some k)=M at *
 have b5:∀ g,(Value.slice O row.length row.length).ownBlock=some g->M g:=λg hg=>by rw[<-hM];exact .inr hg
 have bl:∀ {w5 w':World} {ls:List PR},OX 84 3 RtC M w5 w1.heap.size (.slice O row.length row.length) ls->Ext w w5->Ext w5 w'->∀ k,M k->k<w'.heap.size:=fun {w5 w' ls} h hx hx' k y=>by
  rw[<-hM]at y;rcases y with y|y
  .exact nM (hN k y) (hx.trans hx').size
  obtain⟨_,_,_,_,h3⟩:=id h.form;exact nM (h3 k y).2 hx'.size
 refine ρ ?_;refine cpX RtC.sta hO (by simp) (hr.ext RtC.sta (by decide) a9) h0 (by decide) (λcs a h=>h) RtC.one b5 ?_;intro w3 bj aw;have a8:Ext w w3:=Js a9 aw λk y=>a3 y;have b6:Blk w3 b1 _ _:=(aj.ext ao).grown aw λe=>by
  have h1:=aj.lt;have:=a3 e.symm;cases O with
  | none=>cases e
  | some ad=>injection e with e;have:=ag ad rfl;omega
 refine ρ ?_;refine ldW b6 ?_;refine ρ ?_;refine cl (Uk (hf.ext a8) hsf.len) ?_;rintro _ w4 ⟨rfl,ac⟩;have b4:=bj.ext RtC.sta ac;have bm:=b6.ext ac;have a7:=a8.trans ac;have b7:∀ {w':World} {ls:List PR},OX 84 3 RtC M w' w1.heap.size (.slice O row.length row.length) ls->ls.length<=1000->GX 3 RtC N w' (.slice O row.length row.length) ls:=fun {w' ls} h hl=>h.gx RtC.sta om λk y=>⟨by rw[<-hM];exact .inl y,λe=>by have:=a3 e;have:=hN k y;omega⟩
 refine ρ ?_;refine ci (λh=>?_) (λh=>?_)
 .have hz:f.sign=0:=eq_of_beq h;refine ρ ?_;refine Jq ⟨?_,a7⟩;unfold Xe;rw[if_pos hz];exact b7 b4 hm
 have hz:f.sign≠0:=λe=>by rw[e]at h;simp at h
 have bf:Xe row other f=List.zipWith (Vl f) row other:=by unfold Xe;rw[if_neg hz];rfl
 have Z:(List.zipWith (Vl f) row other).length=row.length:=by simp[hl]
 refine ρ ?_;refine Jh (fun (k:Nat)=>[(1,.slice B other.length d),(5,.pointer (some ⟨b1,0,none⟩)),(7,.slice O row.length row.length),(20,.int .i64 (row.length:Int)),(21,.int .i64 (k:Int))])
  (λk w'=>k<=row.length/\Ext w w'/\Blk w' b1 84 [.bool f.neg,.slice C (Jj f.num).length e,.slice D (Jj f.den).length g]/\OX 84 3 RtC M w' w1.heap.size (.slice O row.length row.length) (mix (List.zipWith (Vl f) row other) row k)) (λk=>row.length-k) 0 sB ⟨Nat.zero_le _,a7,bm,by rw[Gt];exact b4⟩ ?_
 rintro k w5 ⟨y,J,ai,G⟩;have au:(mix (List.zipWith (Vl f) row other) row k).length=row.length:=Uh Z y;refine ρ ?_;refine ci (λh=>?_) (λh=>?_)
 .have U:k<row.length:=by have:=oT h;omega
  clear h;obtain⟨B',d',_,ev,_,_,aq,_,bd⟩:=id (ho.ext RtC.sta (by decide) J).el;injection ev with ev1 ev2 ev3
  subst ev1;obtain⟨ce,bs,be,az⟩:=bd k om;obtain⟨E,x1,F,x2,rfl,ar⟩:=be.sl;have bb:other[k]?=some other[k]:=gE om;have a2:=hs2 other[k] (List.getElem_mem _);have ae:row[k]?=some row[k]:=gE U;have b9:=hs row[k] (List.getElem_mem _);refine ρ ?_;refine ixq 3 k aq om ?_;refine ρ ?_;refine lds (λj u hu=>az j u hu) ?_;refine ρ ?_;refine cl (Uk ar a2.len) ?_;rintro _ w6 ⟨rfl,a5⟩;have am:(List.zipWith (Vl f) row other)[k]?=some (Vl f row[k] other[k]):=by simp[List.getElem?_zipWith,ae,bb]
  refine ρ ?_;refine ci (λh=>?_) (λh=>?_)
  .have ab:other[k].sign≠0:=λe=>by rw[e]at h;simp at h
   have ak:Vl f row[k] other[k]=PR.sub row[k] (PR.mul f other[k]):=by unfold Vl;rw[if_pos ab]
   have b8:Ext w6 w6.drew:=(Ext.refl w6).drew;have i:=a5.trans b8;have bi:=G.ext RtC.sta i;obtain⟨O',_,_,ev,_,af,ax⟩:=id bi.el;rw[au]at ev af;injection ev with ev1 ev2 ev3
   subst ev1;obtain⟨ce,bn,aa,ay⟩:=ax k om;have e2:(mix (List.zipWith (Vl f) row other) row k)[k]'(by omega)=row[k]:=by
    have:=Jzt Z U;rw[List.getElem?_eq_getElem om,ae]at this;injection this
   rw[e2]at aa;obtain⟨E2,y1,F2,y2,rfl,ba⟩:=aa.sl;refine ρ ?_;refine dr [(0,0),(0,1),(0,2),(0,3),(0,4),(0,5),(0,6),(0,7),(0,8),(0,9),(0,10),(1,11),(1,12),(0,13),(2,14)] kr ?_;refine ρd ?_;refine Qp 3 k af U ?_;refine ρd ?_;refine Qj (λj u hu=>ay j u hu) ?_;refine ρd ?_;refine Qj (cs:=[.bool f.neg,.slice C _ e,.slice D _ g]) (λj u hu=>(ai.ext i).at hu) ?_;refine ρd ?_;refine Qp 3 k (aq.ext i) om ?_;refine ρd ?_;refine Qj (λj u hu=>Xx i (az j u hu)) ?_;refine ρd ?_;have bq:=hsf.n;have br:=hsf.d;have bo:=a2.n;have bp:=a2.d;refine dcl (Jvw ((hf.ext J).ext i) (ar.ext i) om om om om (hsf.mm a2)) ?_;rintro x7 w7 ⟨bh,a4⟩;refine⟨a4,?_⟩;refine ρd ?_;refine dcl (Qwm (ba.ext a4) bh (b9.sm hsf a2)) ?_;rintro x8 w8 ⟨b2,an⟩;refine⟨an,?_⟩;rw[<-ak]at b2;have a6:=a4.trans an;have a1:=i.trans a6;obtain⟨G1,g1,G2,g2,rfl,bg⟩:=b2.cell
   refine ρd ?_;refine Qp 3 k (af.ext a6) U ?_;refine ρd ?_;refine Jf ?_;refine stX RtC.sta (G.ext RtC.sta a1) au.symm (show k<_ by omega) (cs:=[.bool (Vl f row[k] other[k]).neg,.slice G1 _ g1,.slice G2 _ g2]) (a:=Vl f row[k] other[k]) (RtC.sta.old bg λj hj=>.inl ?_) b5 (Qq rfl rfl rfl) ?_
   .exact bl G J (i.trans a4) j hj
   intro w9 b3 av;rw[Ug Z U am]at b3;refine ρ ?_;refine Jg (k+1) sO ⟨om,Js (J.trans a1) av (λg hg=>a3 hg),(ai.ext a1).grown av ?_,b3⟩ om;intro e;have h1:=aj.lt;cases O with
   | none=>cases e
   | some ad=>injection e with e;have:=ag ad rfl;omega
  have ab:other[k].sign=0:=by simpa using h
  have ak:(List.zipWith (Vl f) row other)[k]?=row[k]?:=by rw[am,ae];unfold Vl;rw[if_neg (by simp[ab])]
  rw[Jyl Z U ak]at G;refine ρ ?_;exact Jg (k+1) sO ⟨om,J.trans a5,ai.ext a5,G.ext RtC.sta a5⟩ om
 have bc:k=row.length:=by have:=oF h;omega
 subst bc;rw[Jqn Z]at G;refine ρ ?_;refine Jq ⟨?_,J⟩;rw[bf];exact b7 G om
end Go.Proofs.YtebiphhfkdbpfaaGreat
namespace Go.Wk
open Go.RowKit
variable {n ty:Nat}
theorem stF{P:Program}{al:AL}{w:World}{Q:Exit->Act->World->Prop}{ops:Array Oper}{rest:List Oper}{pos:String}{aft:Array Edge}{tt:TT}[h:Tab P tt]{x y:Operand}{t g bt i:Nat}{k:TK}{u v:Value}{cs:List Value}(hb:Blk w g bt cs)(hu:cs[i]?=some u)(kk:∀ w1,Blk w1 g bt (cs.set i v)->w.grownBy w1 (some g)->WL P n ops Q rest al w1)(ht:tk tt t=some k:=by rfl)(hk:k.size=1:=by rfl)(hp:Zw k.desc=true:=by rfl)(hx:ev al x=some (.pointer (some ((⟨g,0,none⟩:Addr).add i))):=by rfl)(hy:ev al y=some v:=by rfl)(hv:v.oneCell'=true:=by rfl):
  WL P n ops Q (⟨none,.store t x y,ty,pos,aft,none⟩::rest) al w:=by
 have e:(⟨g,0,none⟩:Addr).add i=⟨g,i,none⟩:=by rw[Zt,Nat.zero_add]
 refine sto (hb.at hu) ?_ (kk _ ?_ ⟨rfl,rfl,rfl,by simp[World.setCell],λk hk hn=>Below.heap_setCell w _ v k (λj=>hn (by rw[j,e]))⟩) ht hk hp hx hy hv
 .rw[e];exact hb.frozen i
 rw[e];exact hb.set i v
end Go.Wk
namespace Go.Proofs.YtebiphhfkdbpfaaGreat
open Go.RowKit Pl Go.Wk
attribute [local irreducible] WC WL QX WD WDB WP WN WG WH
variable {cs xs':List Value}{b base base' e' k m m' n sz':Nat}{w:World}
theorem EMx: ElT Tryz.prog 120 80 1 24 (.slice none 0 0):=⟨Tryz.underlying120,info_parts kr,rfl,by decide⟩
def MxC(N:Nat->Prop)(w:World)(cs:List Value)(l:List PR): Prop:=∃ v,cs=[v]/\GX 3 RtC N w v l
theorem MxC.sta: Sta MxC:=⟨λ⟨v,e,h⟩ i=>⟨v,e,h.gr RtC.sta (by decide) i⟩,λ⟨v,e,h⟩ j=>⟨v,e,h.old RtC.sta (by decide) j⟩⟩
def TN(b:Nat)(vr vb:Value): Nat->Prop:=λk=>k=b∨vr.ownBlock=some k∨vb.ownBlock=some k
structure TbV(w:World)(base b:Nat)(vr vg vb:Value)(t:PT): Prop where
 blk:Blk w b 168 [.int .i64 (t.n:Int),.int .i64 (t.m:Int),vr,vg,vb]
 rows:OX 80 1 MxC (TN b vr vb) w base vr t.rows
 goal:GX 3 RtC (TN b vr vb) w vg t.goal
 bas:Qz w base vb t.basis
section
variable {w w':World} {base b:Nat} {vr vg vb:Value} {t:PT}
theorem TbV.ext(h:TbV w base b vr vg vb t)(hx:Ext w w'): TbV w' base b vr vg vb t:=⟨h.blk.ext hx,h.rows.ext MxC.sta hx,h.goal.ext RtC.sta (by decide) hx,Jc h.bas hx⟩
theorem TbV.lt(h:TbV w base b vr vg vb t): ∀ k,TN b vr vb k->k<w.heap.size:=λk i=>by
 rcases i with i|i|i
 .rw[i];exact h.blk.lt
 .obtain⟨_,_,_,_,j⟩:=id h.rows.form;exact(j k i).2
 obtain⟨_,_,_,_,j⟩:=Jy h.bas;exact(j k i).2
theorem TbV.ne1(h:TbV w base b vr vg vb t): vr.ownBlock≠some b:=λe=>by
 obtain⟨ps,_,i,_⟩:=id h.rows;exact h.blk.ne_own i kr e.symm
theorem TbV.ne2(h:TbV w base b vr vg vb t): vb.ownBlock≠some b:=λe=>h.blk.ne_own h.bas kr e.symm
end
theorem Jzj{v v':Value}{cs:List Nat}(h:Qz w base v cs)(h':w.ownsRow base' e' sz' v' m' xs')(hne:Nat.beq 3 e'=false)(h1:v.ownBlock=some k)(h2:v'.ownBlock=some k): False:=by
 rcases h.2 with⟨e,_⟩|⟨g,cap,cur,e,_,hg,_⟩
 .rw[e]at h1;cases h1
 rcases h'.2 with⟨i,_⟩|⟨g',cap',cur',i,_,hg',_⟩
 .rw[i]at h2;cases h2
 rw[e]at h1;rw[i]at h2;injection h1 with h1;injection h2 with h2
 simp only at h1 h2;rw[h1]at hg;rw[h2]at hg';rw[hg]at hg';injection hg' with hg'
 injection hg' with _ hg' _
 rw[hg']at hne;simp at hne
theorem Gf(hB:Blk w b 168 cs)(h0:cs[0]?=some (.int .i64 (n:Int)))(h1:cs[1]?=some (.int .i64 (m:Int)))(hn:n<=1000)(hm:m<=1000):
  Ret Tryz.prog 89 [.pointer (some ⟨b,0,none⟩)] w λu w'=>u=.int .i64 ((n+m+1:Nat):Int)/\Ext w w':=by
 refine Jz Tryz.func89 Tryz.ntmps89 rfl kr rfl ?_;have i:Ext w w.drew:=(Ext.refl w).drew;have j:=hB.ext i;refine ρ ?_;refine dr [(0,0),(0,1),(0,2),(0,3),(0,4),(0,5),(0,6),(0,7),(0,8),(0,9),(0,10)] kr ?_;refine ρd ?_;refine dld (j.at h0) ?_;refine ρd ?_;refine dld (j.at h1) ?_;refine ρd ?_;refine ρ ?_;refine Jq ⟨?_,i⟩;rfl
theorem Qnk(hB:Blk w b 168 cs)(h0:cs[0]?=some (.int .i64 (n:Int)))(h1:cs[1]?=some (.int .i64 (m:Int)))(hn:n<=1000)(hm:m<=1000):
  Ret Tryz.prog 124 [.pointer (some ⟨b,0,none⟩)] w λu w'=>u=.int .i64 ((n+m:Nat):Int)/\Ext w w':=by
 refine Jz Tryz.func124 Tryz.ntmps124 rfl kr rfl ?_;have i:Ext w w.drew:=(Ext.refl w).drew;have j:=hB.ext i;refine ρ ?_;refine dr [(0,0),(0,1),(0,2),(0,3),(0,4),(0,5),(0,6),(0,7),(0,8),(0,9)] kr ?_;refine ρd ?_;refine dld (j.at h0) ?_;refine ρd ?_;refine dld (j.at h1) ?_;refine ρd ?_;refine ρ ?_;refine Jq ⟨?_,i⟩;rfl
open Go.RowKit Pl Go.Wk
variable {c r:Nat}{vb vg vg' vr:Value}
def pvr(t:PT)(r c:Nat): List PR:=dvR (t.rows.getD r []) ((t.rows.getD r []).getD c pr0)
def Uv(t:PT)(r c:Nat): List (List PR):=t.rows.mapIdx λi row=>if i=r then row else Xe row (pvr t r c) (row.getD c pr0)
theorem Ym(t:PT)(r c:Nat): (Uv t r c).length=t.rows.length:=by simp[Uv]
theorem Jhm(t:PT)(hr:r<t.rows.length): (Uv t r c).set r (pvr t r c)=(t.pivot r c).rows:=by
 refine List.ext_getElem? λi=>?_;have e:(t.pivot r c).rows=t.rows.mapIdx λi j=>if i=r then pvr t r c else Xe j (pvr t r c) (j.getD c pr0):=rfl
 rw[e];by_cases h:r=i
 .subst h;rw[List.getElem?_set_self (by rw[Ym];exact hr),List.getElem?_mapIdx,List.getElem?_eq_getElem hr];simp
 rw[List.getElem?_set_ne h,Uv,List.getElem?_mapIdx,List.getElem?_mapIdx];cases t.rows[i]? with
 | none=>rfl
 | some x=>
  have hi:¬ i=r:=λe=>h e.symm;simp[hi]
theorem nzS(l:List Nat)(i x:Nat): (Jp (nz l)).set i (.int .i64 (x:Int))=Jp (nz (l.set i x)):=by simp[Jp,nz,List.map_set]
section
variable {w w':World} {base b:Nat} {vr vg vb:Value} {t:PT}
theorem TbV.rowsT(h:TbV w base b vr vg vb t){rows':List (List PR)}(ho:OX 80 1 MxC (TN b vr vb) w' base vr rows')(hg:w.grownBy w' vr.ownBlock): TbV w' base b vr vg vb ⟨t.n,t.m,rows',t.goal,t.basis⟩:=by
 obtain⟨ps,_,i,_⟩:=id h.rows;refine⟨h.blk.grown hg (λe=>h.ne1 e.symm),ho,h.goal.gr RtC.sta (by decide) (GrN.by hg λk j=>.inr (.inl j)),Jo h.bas (N:=λk=>vr.ownBlock=some k) (GrN.by hg λk j=>j) λg y u=>Jzj h.bas i kr y u⟩
theorem TbV.goalT(h:TbV w base b vr vg vb t){goal':List PR}(hB:Blk w' b 168 [.int .i64 (t.n:Int),.int .i64 (t.m:Int),vr,vg',vb])(hG:GX 3 RtC (TN b vr vb) w' vg' goal')(hg:w.grownBy w' (some b)): TbV w' base b vr vg' vb ⟨t.n,t.m,t.rows,goal',t.basis⟩ :=
 ⟨hB,h.rows.gr MxC.sta (M:=λk=>k=b) (GrN.by hg λk i=>by injection i with i;exact i.symm) λk i=>⟨.inl i,λe=>h.ne1 (by rw[e,i])⟩,hG,Jo h.bas (N:=λk=>k=b) (GrN.by hg λk i=>by injection i with i;exact i.symm) λg u j=>h.ne2 (by rw[u,j])⟩
theorem TbV.basT(h:TbV w base b vr vg vb t){basis':List Nat}(ho:Qz w' base vb basis')(hg:w.grownBy w' vb.ownBlock): TbV w' base b vr vg vb ⟨t.n,t.m,t.rows,t.goal,basis'⟩:=by
 obtain⟨ps,_,j,_⟩:=id h.rows;exact⟨h.blk.grown hg (λe=>h.ne2 e.symm),h.rows.gr MxC.sta (M:=λk=>vb.ownBlock=some k) (GrN.by hg λk i=>i) λk i=>⟨.inr (.inr i),λe=>Jzj h.bas j kr i e⟩,h.goal.gr RtC.sta (by decide) (GrN.by hg λk i=>.inr (.inr i)),ho⟩
end
structure TSl(t:PT): Prop where
 row:∀ l∈t.rows,∀ q∈l,Sl q
 goal:∀ q∈t.goal,Sl q
theorem Qvp{w:World}{base b:Nat}{t:PT}(hT:TbV w base b vr vg vb t)(hp:POk t)(hs:TSl t)(hs':TSl (t.pivot r c))(hr:r<t.m)(hc:c<t.n+t.m+1)(hz:((t.rows.getD r []).getD c pr0).norm.num≠0)(hn:t.n<=100)(hm:t.m<=100)(hbase:base<=w.heap.size):
  Ret Tryz.prog 126 [.pointer (some ⟨b,0,none⟩),.int .i64 (r:Int),.int .i64 (c:Int)] w λu w'=>u=.tuple #[]/\∃ vg',TbV w' base b vr vg' vb (t.pivot r c)/\GrN (TN b vr vb) w w':=by
 have a5:r<t.rows.length:=by rw[hp.rows];exact hr
 have hL:t.rows[r]?=some (t.rows.getD r []):=by rw[List.getElem?_eq_getElem a5];simp[List.getD,List.getElem?_eq_getElem a5]
 obtain⟨av,ds⟩:=hp.row r hr;generalize hrow:t.rows.getD r []=row at *
 have bm:t.right+1=t.n+t.m+2:=rfl;rw[bm]at av;have af:c<row.length:=om
 have e3:t.rows.length<=100:=by rw[hp.rows];exact hm
 have c2:row∈t.rows:=List.mem_of_getElem? hL;have d1:t.rows[r]=row:=by rw[List.getElem?_eq_getElem a5]at hL;injection hL
 refine Jz Tryz.func126 Tryz.ntmps126 rfl kr rfl ?_;obtain⟨R,rc,_,rfl,e1,cn,da⟩:=id hT.rows.el;obtain⟨ce,e6,⟨dq,rfl,hG⟩,bt⟩:=da r a5;rw[d1]at hG;obtain⟨A,ac,_,rfl,e7,_,e9,_,e8⟩:=id hG.el;have ai:∀ {w'},Ext w w'->w'.cell? (adr R r)=some (.slice A row.length ac):=λhx=>by
  have:=Xx hx (bt 0 _ rfl);rwa [Nat.mul_one,add_zero]at this
 refine ρ ?_;refine ld (hT.blk.at (i:=2) rfl) ?_;refine ρ ?_;refine ix r cn a5 ?_;refine ρ ?_;refine ld (ai (Ext.refl w)) ?_;refine ρ ?_;refine mkRt row.length om ?_;intro w1 O au hO dd;have az:∀ {k},(Value.slice O row.length row.length).ownBlock=some k->w.heap.size<=k:=fun {k} h=>by
  cases O with
  | none=>cases h
  | some ad=>injection h with h;subst h;exact dd ad rfl
 have cj:=hT.lt;have d8:∀ k,TN b (.slice R t.rows.length rc) vb k->(Value.slice O row.length row.length).ownBlock≠some k:=λk Z e=>by have:=az e;have:=cj k Z;omega
 have hO:=hO (λk=>TN b (.slice R t.rows.length rc) vb k∨(Value.slice O row.length row.length).ownBlock=some k);have dg:∀ k,(TN b (.slice R t.rows.length rc) vb k∨(Value.slice O row.length row.length).ownBlock=some k)->TN b (.slice R t.rows.length rc) vb k∨w.heap.size<=k:=λk Z=>Z.elim .inl λh=>.inr (az h);have dk:=hG.old RtC.sta (by decide) dg;generalize hM:(λk=>TN b (.slice R t.rows.length rc) vb k∨(Value.slice O row.length row.length).ownBlock=some k)=M at *
 have ag:∀ g,(Value.slice O row.length row.length).ownBlock=some g->M g:=λg hg=>by rw[<-hM];exact .inr hg
 have d9:=hT.ext au;refine ρ ?_;refine ld (d9.blk.at (i:=2) rfl) ?_;refine ρ ?_;refine ix r (cn.ext au) a5 ?_;refine ρ ?_;refine ld (ai au) ?_;refine ρ ?_;refine cpX RtC.sta hO (by simp) (dk.ext RtC.sta (by decide) au) om (by decide) (λcs a h=>h) RtC.one ag ?_;intro w2 bu d3;have bw:Ext w w2:=Js au d3 λk Z=>az Z;obtain⟨O',oc,_,ev,_,df,de⟩:=id bu.el;injection ev with ev1 ev2 ev3
 subst ev1;obtain⟨ce,dx,d4,aj⟩:=de c af;obtain⟨C,cc,D,dc,rfl,c9⟩:=d4.sl;have ca:row[c]=row.getD c pr0:=by simp[List.getD,List.getElem?_eq_getElem af]
 rw[ca]at c9 aj;have bl:Sl (row.getD c pr0):=by rw[<-ca];exact hs.row row c2 _ (List.getElem_mem _)
 generalize hdd:row.getD c pr0=dv at *
 refine ρ ?_;refine ixq 3 c df af ?_;refine ρ ?_;refine lds (λj u hu=>aj j u hu) ?_;refine ρ ?_;refine alc Ze ?_;intro w3 b3 cv d6 dm;refine ρ ?_;refine stb (cs':=[.bool dv.neg,.slice C _ cc,.slice D _ dc]) dm ?_ (Qq rfl rfl rfl);intro w4 dl e5 cu;have ah:Ext w2 w4:=cu w2 cv d6;refine ρ ?_;have ba:∀ k,M k->k<w2.heap.size:=λk Z=>by
  rw[<-hM]at Z;rcases Z with Z|Z
  .exact nM (cj k Z) bw.size
  obtain⟨_,_,_,_,h3⟩:=id bu.form;exact(h3 k Z).2
 have ae:(dvR row dv).length=row.length:=by simp[dvR]
 refine Jh (fun (k:Nat)=>[(0,.pointer (some ⟨b,0,none⟩)),(1,.int .i64 (r:Int)),(2,.int .i64 (c:Int)),(6,.slice O row.length row.length),(7,.pointer (some ⟨b3,0,none⟩)),(33,.int .i64 (row.length:Int)),(34,.int .i64 (k:Int))])
  (λk w'=>k<=row.length/\Ext w w'/\Blk w' b3 84 [.bool dv.neg,.slice C (Jj dv.num).length cc,.slice D (Jj dv.den).length dc]/\OX 84 3 RtC M w' w.heap.size (.slice O row.length row.length) (mix (dvR row dv) row k)/\RtX M w' (.agg #[.bool dv.neg,.slice C (Jj dv.num).length cc,.slice D (Jj dv.den).length dc]) dv/\w2.heap.size<=w'.heap.size) (λk=>row.length-k) 0 sB ⟨Nat.zero_le _,bw.trans ah,dl,by rw[Gt];exact bu.ext RtC.sta ah,c9.ext ah,ah.size⟩ ?_
 rintro k w5 ⟨Z,ar,b1,a9,ax,am⟩;have bo:(mix (dvR row dv) row k).length=row.length:=Uh ae Z;refine ρ ?_;refine ci (λh=>?_) (λh=>?_)
 .have y:k<row.length:=by have:=oT h;omega
  clear h;obtain⟨O2,_,_,ev,_,b5,c8⟩:=id a9.el;rw[bo]at ev b5;injection ev with ev1 ev2 ev3
  subst ev1;obtain⟨ce,dz,be,bf⟩:=c8 k om;have ab:row[k]?=some row[k]:=gE y;have e2:(mix (dvR row dv) row k)[k]'(by omega)=row[k]:=by
   have:=Jzt ae y;rw[List.getElem?_eq_getElem om,ab]at this;injection this
  rw[e2]at be;obtain⟨E2,y1,F2,y2,rfl,c1⟩:=be.sl;have b4:=hs.row row c2 row[k] (List.getElem_mem _);have b2:(dvR row dv)[k]?=some (if row[k].sign≠0 then PR.div row[k] dv else row[k]):=by simp[dvR,ab]
  refine ρ ?_;refine ixq 3 k b5 y ?_;refine ρ ?_;refine lds (λj u hu=>bf j u hu) ?_;refine ρ ?_;refine cl (Uk c1 b4.len) ?_;rintro _ w6 ⟨rfl,ak⟩;refine ρ ?_;refine ci (λh=>?_) (λh=>?_)
  .have bj:row[k].sign≠0:=λe=>by rw[e]at h;simp at h
   rw[if_pos bj]at b2;have a8:Ext w6 w6.drew:=(Ext.refl w6).drew;have a4:=ak.trans a8;refine ρ ?_;refine drH (λi=>i == 12) ?_;refine Ia (fuel':=2) 14 [(0,0),(0,1),(0,2),(0,3),(0,4),(0,5),(0,6),(1,7),(0,8),(0,9),(0,11)] #[true,true,true,true,true,true,true,true,true,true,false,true,false] kr kr rfl ?_;refine ρd ?_;refine Qp 3 k (b5.ext a4) y ?_;refine ρd ?_;refine Qj (λj u hu=>Xx a4 (bf j u hu)) ?_;refine ρd ?_;refine Qj (cs:=[.bool dv.neg,.slice C _ cc,.slice D _ dc]) (λj u hu=>(b1.ext a4).at hu) ?_;refine ρd ?_;have f1:=b4.n;have f2:=b4.d;have f3:=bl.n;have f4:=bl.d;have f5:row[k].den*dv.num<=120*720:=Nat.mul_le_mul f2 f3;refine dcl (Jhk (c1.ext a4) (ax.ext a4) hz b4.d0 bl.d0 om om om om om) ?_;rintro _ w7 ⟨⟨x7,rfl,d7⟩,a3⟩;refine⟨a3,?_⟩;have F:=a4.trans a3;obtain⟨G1,g1,G2,g2,rfl,cd⟩:=d7.cell;refine ρd ?_
   refine Qp 3 k (b5.ext F) y ?_;refine ρd ?_;refine Ie ?_;refine Jqs 10 12 kr rfl rfl rfl ?_ ?_
   .refine ρ ?_;refine Qe (λ_=>Ext.refl _) ?_;refine Zn 12 kr rfl rfl ?_;refine stX RtC.sta (a9.ext RtC.sta F) bo.symm (show k<_ by omega) (cs:=[.bool (PR.div row[k] dv).neg,.slice G1 _ g1,.slice G2 _ g2]) (a:=PR.div row[k] dv) (RtC.sta.old cd λj hj=>.inl (nM (ba j hj) (nL am a4.size))) ag (Qq rfl rfl rfl) ?_;intro w8 aa a1;rw[Ug ae y b2]at aa;have aw:GrN M w7 w8:=GrN.by a1 ag
    refine ρ ?_;refine Qe (λh=>absurd h (by decide)) ?_;refine Zx kr ?_;refine ρ ?_;refine Jg (k+1) sO ⟨om,Js (ar.trans F) a1 (λg hg=>az hg),(b1.ext F).grown a1 ?_,aa,(ax.ext F).gr aw,Nat.le_trans am (nL F.size a1.size)⟩ om;intro e;have h1:=ba b3 (ag b3 e.symm);omega
   refine ρ ?_;refine stX RtC.sta (a9.ext RtC.sta F) bo.symm (show k<_ by omega) (cs:=[.bool (PR.div row[k] dv).neg,.slice G1 _ g1,.slice G2 _ g2]) (a:=PR.div row[k] dv) (RtC.sta.old cd λj hj=>.inl (nM (ba j hj) (nL am a4.size))) ag (Qq rfl rfl rfl) ?_;intro w8 aa a1;rw[Ug ae y b2]at aa;have aw:GrN M w7 w8:=GrN.by a1 ag
   refine ρ ?_;refine Qe (λh=>absurd h (by decide)) ?_;refine Zn 10 kr rfl rfl ?_;refine ρ ?_;refine Qe (λ_=>Ext.refl _) ?_;refine Zx kr ?_;refine ρ ?_;refine Jg (k+1) sO ⟨om,Js (ar.trans F) a1 (λg hg=>az hg),(b1.ext F).grown a1 ?_,aa,(ax.ext F).gr aw,Nat.le_trans am (nL F.size a1.size)⟩ om;intro e;have h1:=ba b3 (ag b3 e.symm);omega
  have bj:row[k].sign=0:=by simpa using h
  have dn:(dvR row dv)[k]?=row[k]?:=by rw[b2,ab,if_neg (by simp[bj])]
  rw[Jyl ae y dn]at a9;refine ρ ?_;exact Jg (k+1) sO ⟨om,ar.trans ak,b1.ext ak,a9.ext RtC.sta ak,ax.ext ak,Nat.le_trans am ak.size⟩ om
 have bq:k=row.length:=by have:=oF h;omega
 clear h Z;subst bq;rw[Jqn ae]at a9;have c3:dvR row dv=pvr t r c:=by unfold pvr;rw[hrow,hdd]
 have c4:(pvr t r c).length=row.length:=by rw[<-c3];exact ae
 rw[c3]at a9;have ck:=hT.ext ar;have d2:GX 3 RtC (TN b (.slice R t.rows.length rc) vb) w5 (.slice O row.length row.length) (pvr t r c):=a9.gx RtC.sta om λk Z=>⟨by rw[<-hM];exact .inl Z,d8 k Z⟩;clear a9 ax b1 am;refine ρ ?_;refine ld (ck.blk.at (i:=2) rfl) ?_;have cx:pvr t r c∈(t.pivot r c).rows:=by rw[<-Jhm t a5];exact List.mem_set (by rw[Ym];exact a5) _
 have bz:∀ q∈pvr t r c,Sl q:=hs'.row _ cx;have J:∀ i (hi:i<t.rows.length),t.rows[i].length=row.length:=λi hi=>by
  have:=(hp.row i (by rw[<-hp.rows];exact hi)).1;rw[List.getD,List.getElem?_eq_getElem hi,bm]at this;rw[av];exact this
 refine ρ ?_;refine Jh (fun (k:Nat)=>[(0,.pointer (some ⟨b,0,none⟩)),(1,.int .i64 (r:Int)),(2,.int .i64 (c:Int)),(6,.slice O row.length row.length),(60,.int .i64 (t.rows.length:Int)),(61,.int .i64 (k:Int))])
  (λk w'=>k<=t.rows.length/\TbV w' base b (.slice R t.rows.length rc) vg vb ⟨t.n,t.m,mix (Uv t r c) t.rows k,t.goal,t.basis⟩/\GX 3 RtC (TN b (.slice R t.rows.length rc) vb) w' (.slice O row.length row.length) (pvr t r c)/\GrN (TN b (.slice R t.rows.length rc) vb) w w') (λk=>t.rows.length-k) 0 sB
  ⟨Nat.zero_le _,by rw[Gt];exact ck,d2,GrN.ext ar⟩ ?_
 rintro k w6 ⟨Z,ap,b9,br⟩;have bn:(mix (Uv t r c) t.rows k).length=t.rows.length:=Uh (Ym t r c) Z;refine ρ ?_;refine ci (λh=>?_) (λh=>?_)
 .have y:k<t.rows.length:=by have:=oT h;omega
  clear h;have ab:t.rows[k]?=some t.rows[k]:=gE y;have b6:(Uv t r c)[k]?=some (if k=r then t.rows[k] else Xe t.rows[k] (pvr t r c) (t.rows[k].getD c pr0)):=by simp[Uv,ab]
  refine ρ ?_;refine ci (λh=>?_) (λh=>?_)
  .have bp:k≠r:=λe=>by subst e;simp at h
   rw[if_neg bp]at b6;have a8:Ext w6 w6.drew:=(Ext.refl w6).drew;have a2:=ap.ext a8;have aq:=b9.ext RtC.sta (by decide) a8;obtain⟨R',cr,_,ev,_,a6,bi⟩:=id a2.rows.el;simp only[bn]at ev a6 bi;injection ev with ev1 ev2 ev3
   subst ev1;obtain⟨ce,dw,⟨vk,rfl,bv⟩,d5⟩:=bi k y;have e2:(mix (Uv t r c) t.rows k)[k]'(by omega)=t.rows[k]:=by
    have:=Jzt (Ym t r c) y;rw[List.getElem?_eq_getElem om,ab]at this;injection this
   rw[e2]at bv;obtain⟨K,kc,_,ek,e4,_,cp,_,dh⟩:=id bv.el;rw[J k y]at ek cp;subst ek;obtain⟨ce,du,bd,b8⟩:=dh c (by rw[J k y];exact af);have bc:t.rows[k][c]'(by rw[J k y];exact af)=t.rows[k].getD c pr0:=by simp[List.getD,List.getElem?_eq_getElem (show c<t.rows[k].length by rw[J k y];exact af)]
   rw[bc]at bd;have c0:Sl (t.rows[k].getD c pr0):=by rw[<-bc];exact hs.row _ (List.getElem_mem _) _ (List.getElem_mem _)
   obtain⟨E1,x1,E2,x2,rfl,cy⟩:=bd.sl;have bg:w6.drew.cell? (adr R k)=some (.slice K row.length kc):=by
    have:=d5 0 _ rfl;rwa [Nat.mul_one,add_zero]at this
   refine ρ ?_;refine dr [(0,0),(0,1),(0,2),(0,3),(0,4),(0,5),(0,6),(0,7),(0,8),(0,9),(0,10),(0,11),(0,12),(0,13),(0,14),(0,15),(0,16),(0,17),(0,18),(0,19),(0,20),(0,21),(0,22),(1,23),(0,24),(2,25)] kr ?_;refine ρd ?_;refine dld (a2.blk.at (i:=2) rfl) ?_;refine ρd ?_;refine dld (a2.blk.at (i:=2) rfl) ?_;refine ρd ?_;refine dix k a6 y ?_;refine ρd ?_;refine dld bg ?_;refine ρd ?_;refine dld (a2.blk.at (i:=2) rfl) ?_;refine ρd ?_;refine dix k a6 y ?_;refine ρd ?_;refine dld bg ?_;refine ρd ?_;refine Qp 3 c cp af ?_;refine ρd ?_;refine Qj (λj u hu=>b8 j u hu) ?_;refine ρd ?_;refine dcl (Jrd bv aq cy a2.lt (by rw[c4,J k y]) (by rw[J k y];omega) (by rw[J k y];omega) (hs.row _ (List.getElem_mem _)) bz c0) ?_;rintro u w7 ⟨hU,a3⟩;refine⟨a3,?_⟩;have ao:=a2.ext a3;obtain⟨U,uc,_,rfl,_,_,_,_,_⟩:=id hU.el;refine ρd ?_;refine dix k (a6.ext a3) y ?_;refine ρd ?_;refine Jf ?_
   refine stX1 MxC.sta ao.rows bn.symm (show k<_ by rw[bn];exact y) (u:=.slice U _ uc) (a:=Xe t.rows[k] (pvr t r c) (t.rows[k].getD c pr0)) ⟨_,rfl,hU⟩ (λg hg=>.inr (.inl hg)) rfl ?_;intro w8 aa a1;rw[Ug (Ym t r c) y b6]at aa;have an:=ao.rowsT aa a1;have a7:GrN (TN b (.slice R t.rows.length rc) vb) w7 w8:=GrN.by a1 λk Z=>.inr (.inl Z)
   refine ρ ?_;exact Jg (k+1) sO ⟨om,an,(aq.ext RtC.sta (by decide) a3).gr RtC.sta (by decide) a7,(br.trans (GrN.ext (a8.trans a3))).trans a7⟩ om
  have bp:k=r:=by
   have:((k:Int) == (r:Int))=true:=by simpa using h
   have:=eq_of_beq this;omega
  rw[if_pos bp]at b6;rw[Jyl (Ym t r c) y (by rw[b6,ab])]at ap;refine ρ ?_;exact Jg (k+1) sO ⟨om,ap,b9,br⟩ om
 have bq:k=t.rows.length:=by have:=oF h;omega
 clear h Z;subst bq;rw[Jqn (Ym t r c)]at ap;have a8:Ext w6 w6.drew:=(Ext.refl w6).drew;have a2:=ap.ext a8;have aq:=b9.ext RtC.sta (by decide) a8;have b7:=hp.goal.1;rw[bm]at b7;obtain⟨G,gc,_,rfl,_,_,dj,_,di⟩:=id a2.goal.el;have bs:c<t.goal.length:=om
 obtain⟨ce,dt,bh,cb⟩:=di c bs;have bb:t.goal[c]=t.goal.getD c pr0:=by simp[List.getD,List.getElem?_eq_getElem bs]
 simp only[bb]at bh;have cw:Sl (t.goal.getD c pr0):=by rw[<-bb];exact hs.goal _ (List.getElem_mem _)
 obtain⟨E1,x1,E2,x2,rfl,cz⟩:=bh.sl;refine ρ ?_;refine drC 18 [0,1,5,6,10] [(0,2),(0,3),(0,4),(0,7),(0,8),(0,9),(0,11),(0,12),(1,13),(0,14),(0,15),(2,16)] kr ?_;refine ρp ?_;refine ρd ?_;refine dld (a2.blk.at (i:=3) rfl) ?_;refine ρd ?_;refine dld (a2.blk.at (i:=3) rfl) ?_;refine ρd ?_;refine Qp 3 c dj bs ?_;refine ρd ?_;refine Qj (λj u hu=>cb j u hu) ?_;refine ρd ?_;refine dcl (Jrd a2.goal aq cz a2.lt (by rw[c4,b7,av]) (by rw[b7];omega) (by rw[b7];omega) hs.goal bz cw) ?_;rintro u w7 ⟨hU,a3⟩;refine⟨a3,?_⟩;have ao:=a2.ext a3;obtain⟨U,uc,_,rfl,_,_,_,_,_⟩:=id hU.el;refine ρd ?_;refine Jf ?_;refine stF (i:=3) ao.blk rfl ?_;intro w8 cq a1;have a7:GrN (TN b (.slice R t.rows.length rc) vb) w7 w8:=GrN.by a1 λk Z=>by injection Z with Z;exact .inl Z.symm
 have an:=ao.goalT (vg':=.slice U _ uc) (goal':=Xe t.goal (pvr t r c) (t.goal.getD c pr0)) cq (hU.gr RtC.sta (by decide) a7) a1;have db:=(aq.ext RtC.sta (by decide) a3).gr RtC.sta (by decide) a7;have c7:=(br.trans (GrN.ext (a8.trans a3))).trans a7;clear ao a2 ap aq b9 cq;obtain⟨R',cr,_,ev,_,a6,_⟩:=id an.rows.el;simp only[Ym]at ev a6;injection ev with ev1 ev2 ev3
 subst ev1;refine ρ ?_;refine ld (an.blk.at (i:=2) rfl) ?_;refine ρ ?_;refine ix r a6 a5 ?_;refine ρ ?_;refine stX1 MxC.sta an.rows (Ym t r c).symm (show r<_ by rw[Ym];exact a5) (u:=.slice O row.length row.length) (a:=pvr t r c) ⟨_,rfl,db⟩ (λg hg=>.inr (.inl hg)) rfl ?_;intro w9 co c6;rw[Jhm t a5]at co;have ay:=an.rowsT co c6;have c5:=c7.trans (GrN.by c6 λk Z=>.inr (.inl Z));obtain⟨S,sc,eS,e0,_⟩:=Jy ay.bas;subst eS;have cg:r<t.basis.length:=by rw[hp.basis];exact hr
 refine ρ ?_;refine ld (ay.blk.at (i:=4) rfl) ?_;refine ρ ?_;refine ix r (Rd.own ay.bas) cg ?_;refine ρ ?_;obtain⟨s1,s2,s3,s4,s5⟩:=Zl ay.bas (q:=r) (show r<t.basis.length*1 by omega) (.int .i64 (c:Int));refine sto (s1.trans (Qn cg)) s2 ?_;have ch:Qz (w9.setCell (adr S r) (.int .i64 (c:Int))) base (.slice S t.basis.length sc) (t.basis.set r c):=by
  rw[Qz,<-nzS,List.length_set];exact s3
 have cm:=ay.basT ch s5;refine ρ ?_;exact Vg ⟨rfl,_,cm,c5.trans (GrN.by s5 λk Z=>.inr (.inr Z))⟩
open Go.RowKit Pl Go.Wk
variable {cs:List Value}{b base c k n:Nat}{N:Nat->Prop}{p q qc qr:PR}{t:PT}{v vb vg vr:Value}{w:World}
def Vo: Option (Nat×PR)->Int
 | none=>-1
 | some p=>(p.1:Int)
theorem div_le'(hp:p.den≠0)(hq:q.den≠0)(h0:q.norm.num≠0): (PR.div p q).num<=p.num*q.den/\(PR.div p q).den<=p.den*q.num/\(PR.div p q).den≠0:=by
 unfold PR.div;rw[if_neg h0];obtain⟨j,i⟩:=mul_le' (p:=p) (q:=⟨q.norm.neg,q.norm.den,q.norm.num⟩) hp h0;exact⟨nL j (Nat.mul_le_mul_left _ (Vt hq)),Nat.le_trans i (Nat.mul_le_mul_left _ (Uu q)),(PR.mul_val (a:=p) (b:=⟨q.norm.neg,q.norm.den,q.norm.num⟩) hp h0).2⟩
def lvT(t:PT)(k:Nat)(q:PR): Option (Nat×PR)->Bool
 | none=>true
 | some p=>decide (PR.cmp q p.2<0∨(PR.cmp q p.2=0/\t.basis.getD k 0<t.basis.getD p.1 0))
theorem Qcr(hc:(t.rows.getD k []).getD c pr0=qc)(hr:(t.rows.getD k []).getD t.right pr0=qr)(hs:¬ qc.sign<=0): lvS t c (k+1)=if lvT t k (PR.div qr qc) (lvS t c k)=true then some (k,PR.div qr qc) else lvS t c k:=by
 conv=>lhs;unfold lvS
 simp only[hc,hr];rw[if_neg hs];cases lvS t c k with
 | none=>simp[lvT]
 | some p=>
  simp only[lvT,decide_eq_true_eq]
theorem Qzj(h:0<q.sign): q.num≠0:=λe=>by unfold PR.sign at h;rw[if_pos e]at h;omega
theorem Jlp(h:q.num≠0): q.norm.num≠0:=by
 unfold PR.norm;split
 .exact h
 have i:=Nat.gcd_dvd_left q.num q.den;obtain⟨k,j⟩:=i;show q.num / Nat.gcd q.num q.den≠0;have u:0<Nat.gcd q.num q.den:=Nat.gcd_pos_of_pos_left _ om;intro e;have y:=Nat.div_eq_zero_iff.1 e;have:=Nat.le_of_dvd om (Nat.gcd_dvd_left q.num q.den);omega
theorem NatX.box{t:Nat}(h:NatX N w v n)(hB:Blk w b t cs)(hc:∀ u∈cs,∀ z,u≠.int .u32 z): NatX (λk=>N k∨k=b) w v n:=by
 refine⟨h.1,λh0 y m c e i=>?_⟩;rcases i with i|i
 .exact h.2 h0 y m c e i
 obtain⟨A,O,j,_,_,G⟩:=h.1;rw[e]at j;injection j with j _ _
 subst j;have F:=G.cell (Xz (limbs_pos' h0));have J:adr (some y) 0=y:=by rw[adr,add_zero];rfl
 rw[J]at F;obtain⟨U,off,D⟩:=y;simp only at i;subst i;unfold Blk at hB;simp[World.cell?,hB]at F;grind
theorem RtX.bx{t:Nat}(h:RtX N w v q)(hB:Blk w b t cs)(hc:∀ u∈cs,∀ z,u≠.int .u32 z): RtX (λk=>N k∨k=b) w v q:=by
 obtain⟨x,y,e,j,i⟩:=h;exact⟨x,y,e,j.box hB hc,i.box hB hc⟩
theorem no32{b:Bool}{A B:Option Addr}{m m' c':Nat}: ∀ u∈[Value.bool b,.slice A m c,.slice B m' c'],∀ z,u≠.int .u32 z:=λu i z e=>by
 simp only[List.mem_cons,List.not_mem_nil,or_false]at i;rcases i with rfl|rfl|rfl<;>cases e
def SF.dv(N:Nat->Prop)(q:PR): SF:=⟨λv w=>∃ x,v=.tuple #[x,.int .i64 0]/\RtX N w x q,λ⟨x,e,h⟩ hx=>⟨x,e,h.ext hx⟩⟩
def SF.rb(s:Nat): SF:=⟨λv w=>∃ b,v=.pointer (some ⟨b,0,none⟩)/\s<=b/\Blk w b 84 [.bool false,.slice none 0 0,.slice none 0 0],λ⟨b,e,h,hb⟩ hx=>⟨b,e,h,hb.ext hx⟩⟩
theorem Qdm(hT:TbV w base b vr vg vb t)(hp:POk t)(hs:TSl t)(hc:c<t.n+t.m)(hn:t.n<=100)(hm:t.m<=100):
  Ret Tryz.prog 129 [.pointer (some ⟨b,0,none⟩),.int .i64 (c:Int)] w λu w'=>u=.int .i64 (Vo (lvS t c t.m))/\Ext w w':=by
 have cp:=hT.lt;have ch:t.rows.length=t.m:=hp.rows;have F:∀ i (hi:i<t.rows.length),t.rows[i].length=t.n+t.m+2:=λi hi=>by
  have:=(hp.row i (by rw[<-hp.rows];exact hi)).1;rwa [List.getD,List.getElem?_eq_getElem hi]at this
 refine Jz Tryz.func129 Tryz.ntmps129 rfl kr rfl ?_;obtain⟨R,rc,_,rfl,cg,c8,c7⟩:=id hT.rows.el;refine ρ ?_;refine alc Ze ?_;intro w1 b6 az c1 bp;have c6:=hT.ext az;refine ρ ?_;refine ld (c6.blk.at (i:=2) rfl) ?_;refine ρ ?_;refine Qd (fun (k:Nat) (ls:List Value)=>[(0,.pointer (some ⟨b,0,none⟩)),(1,.int .i64 (c:Int)),(5,.int .i64 (Vo (lvS t c k))),(6,.pointer (some ⟨b6,0,none⟩)),(15,.slice R t.rows.length rc),(16,.int .i64 (t.rows.length:Int)),(17,.int .i64 (k:Int))])
  (λk ls w'=>k<=t.m/\Ext w w'/\w1.heap.size<=w'.heap.size/\Blk w' b6 84 ls/\ls.length=3/\(∀ u∈ls,u.oneCell'=true)/\∀ p,lvS t c k=some p->RtC (Ol w1) w' ls p.2/\p.2.num<=86400/\p.2.den<=86400/\p.1<t.m) (λk _=>t.m-k) 0 [.bool false,.slice none 0 0,.slice none 0 0] sB ⟨Nat.zero_le _,az,Nat.le_refl _,bp,rfl,Qq rfl rfl rfl,λp h=>by cases h⟩ ?_
 rintro k ls w2 ⟨hk,a8,ai,av,ay,b5,hI⟩;have l6:=bp.lt;refine ρ ?_;refine ci (λh=>?_) (λh=>?_)
 .have a1:k<t.rows.length:=by have:=oT h;omega
  clear h;have b4:k<t.m:=om
  have bj:=c8.ext a8;obtain⟨ce,cm,⟨vk,rfl,cc⟩,bz⟩:=c7 k a1;obtain⟨K,kc,_,rfl,ck,_,cb,_,bl⟩:=id cc.el;rw[F k a1]at *;have bd:w2.cell? (adr R k)=some (.slice K (t.n+t.m+2) kc):=by
   have:=Xx a8 (bz 0 _ rfl);rwa [Nat.mul_one,add_zero]at this
  have ar:=cb.ext a8;obtain⟨ce,_,ba,bc⟩:=bl c (by rw[F k a1];omega);obtain⟨cr,_,b2,bu⟩:=bl (t.n+t.m+1) (by rw[F k a1];omega);have ec:t.rows[k][c]'(by rw[F k a1];omega)=(t.rows.getD k []).getD c pr0:=by simp[List.getD,List.getElem?_eq_getElem a1,List.getElem?_eq_getElem (show c<t.rows[k].length by rw[F k a1];omega)]
  have er:t.rows[k][t.n+t.m+1]'(by rw[F k a1];omega)=(t.rows.getD k []).getD t.right pr0:=by simp[PT.right,List.getD,List.getElem?_eq_getElem a1,List.getElem?_eq_getElem (show t.n+t.m+1<t.rows[k].length by rw[F k a1];omega)]
  have ac:Sl ((t.rows.getD k []).getD c pr0):=by rw[<-ec];exact hs.row _ (List.getElem_mem _) _ (List.getElem_mem _)
  have ah:Sl ((t.rows.getD k []).getD t.right pr0):=by rw[<-er];exact hs.row _ (List.getElem_mem _) _ (List.getElem_mem _)
  rw[ec]at ba;rw[er]at b2;generalize hqc:(t.rows.getD k []).getD c pr0=qc at *
  generalize hqr:(t.rows.getD k []).getD t.right pr0=qr at *
  obtain⟨E1,x1,E2,x2,rfl,be⟩:=ba.sl;obtain⟨F1,y1,F2,y2,rfl,bv⟩:=b2.sl;refine ρ ?_;refine ix k bj a1 ?_;refine ρ ?_;refine ld bd ?_;refine ρ ?_;refine ixq 3 c ar om ?_;refine ρ ?_;refine lds (λj u hu=>Xx a8 (bc j u hu)) ?_;refine ρ ?_;refine cl (Uk (be.ext a8) ac.len) ?_;rintro _ w3 ⟨rfl,Z⟩;have ao:=a8.trans Z;refine ρ ?_;refine ci (λh=>?_) (λh=>?_)
  .have aw:qc.sign<=0:=oT h;have e:lvS t c (k+1)=lvS t c k:=by
    conv=>lhs;unfold lvS
    simp only[hqc];rw[if_pos aw]
   refine ρ ?_;refine Qy (k+1) ls (by rw[e];exact sO) ⟨om,ao,Nat.le_trans ai Z.size,av.ext Z,ay,b5,λp a2=>?_⟩ om;rw[e]at a2;obtain⟨h1,h2⟩:=hI p a2;exact⟨RtC.sta.gr h1 (GrN.ext Z),h2⟩
  have aw:¬ qc.sign<=0:=oF h;have a4:Ext w3 w3.drew:=(Ext.refl w3).drew;have a3:=ao.trans a4;have aq:=ar.ext (Z.trans a4);have b3:qc.norm.num≠0:=Jlp (Qzj om);have f1:=ah.n;have f2:=ah.d;have f3:=ac.n;have f4:=ac.d;have f5:qr.den*qc.num<=120*720:=Nat.mul_le_mul f2 f3;have f6:qr.num*qc.den<=720*120:=Nat.mul_le_mul f1 f4;obtain⟨g1,g2,g3⟩:=div_le' ah.d0 ac.d0 b3;have c5:=hT.ext a3;have ax:w1.heap.size<=w3.drew.heap.size:=nL ai (Z.trans a4).size;refine ρ ?_;refine drH (λi=>i == 14 || i == 15) ?_;refine Ia (fuel':=10) 17 [(0,0),(0,1),(0,5),(0,6),(0,7),(0,8)] #[true,true,false,false,false,true,true,true,true,false,false,false,false,false,false,false] kr kr rfl ?_;refine ρd ?_;refine Qp 3 c aq om ?_;refine ρd ?_;refine Qj (λj u hu=>Xx a3 (bc j u hu)) ?_;refine ρd ?_;refine Ie ?_;refine hcut 1 (lst 16 15) (fun (y:Nat×List Value)=>[(40,.int .i64 0),(9,.pointer (some ⟨y.1,0,none⟩)),(0,.pointer (some ⟨b,0,none⟩)),(1,.int .i64 (c:Int)),(5,.int .i64 (Vo (lvS t c k))),(6,.pointer (some ⟨b6,0,none⟩)),(7,.int .i64 (k:Int)),(15,.slice R t.rows.length rc),(16,.int .i64 (t.rows.length:Int)),(17,.int .i64 (k:Int))])
   (λy W=>Ext w3.drew W/\w3.drew.heap.size<=y.1/\Blk W y.1 84 y.2/\y.2.length=3/\RtC (λk=>Ol w1 k∨k=y.1) W y.2 (PR.div qr qc)) ?_ ?_
  rotate_left
  .intro rest;have bq:∀ {v4:World} {x:Value} {b9:Nat},Ext w3.drew v4->RtX (Ol w1) v4 x (PR.div qr qc)->w3.drew.heap.size<=b9->Blk v4 b9 84 [.bool false,.slice none 0 0,.slice none 0 0]->∃ cs:List Value,x=.agg cs.toArray/\cs.length=3/\(∀ u∈cs,u.oneCell'=true)/\∀ {v5:World},Blk v5 b9 84 cs->v4.grownBy v5 (some b9)->RtC (λk=>Ol w1 k∨k=b9) v5 cs (PR.div qr qc):=fun {v4 x b9} hx hX hb hB=>by
    obtain⟨A',c',B',d',rfl,c3,c2⟩:=(hX.bx hB no32).sl;refine⟨_,rfl,rfl,Qq rfl rfl rfl,fun {v5} hB5 hg=>?_⟩;have b8:GrN (λk=>Ol w1 k∨k=b9) v4 v5:=GrN.by hg λk ek=>by injection ek with ek;exact .inr ek.symm
    exact⟨_,_,rfl,c3.gr b8,c2.gr b8⟩
   refine hmkSq 17 12 2 _ #[true,true,true,true,true,true,true,true,true,true,true,true,true,true,false,false] [2,3,4,9,10,11,12,13] [31,32,33,38,28,39,40,9] [SF.eq (.int .i64 ((t.n+t.m+1:Nat):Int)),SF.eq (.pointer (some (adr K ((t.n+t.m+1)*3)))),SF.eq (.agg #[.bool qr.neg,.slice F1 (Jj qr.num).length y1,.slice F2 (Jj qr.den).length y2]),SF.dv (Ol w1) (PR.div qr qc),SF.dv (Ol w1) (PR.div qr qc),SF.rx (Ol w1) (PR.div qr qc),SF.eq (.int .i64 0),SF.rb w3.drew.heap.size] kr (by rfl) ?_ ?_ ?_
   .refine gsc (λvs v1 D hd=>?_) ?_
    .simp only[slM];refine cl (Gf (c5.ext D).blk rfl rfl om om) ?_;rintro _ v2 ⟨rfl,O⟩;exact Qk (Vx O rfl)
    refine gsc (λvs v1 D hd=>?_) ?_
    .have e0:vs 0=_:=hd 0;simp only[slM,e0];refine ixq 3 (t.n+t.m+1) (aq.ext D) om ?_;exact Qk (Vx (Ext.refl _) rfl)
    refine gsc (λvs v1 D hd=>?_) ?_
    .have e0:vs 1=_:=hd 1;simp only[slM,e0];refine lds (λj u hu=>Xx (a3.trans D) (bu j u hu)) ?_;exact Qk (Vx (Ext.refl _) rfl)
    refine gsc (λvs v1 D hd=>?_) ?_
    .have e0:vs 2=_:=hd 2;simp only[slM,e0];refine cl (Jhk (bv.ext (a3.trans D)) (be.ext (a3.trans D)) b3 ah.d0 ac.d0 om om om om om) ?_;rintro _ v2 ⟨⟨x,rfl,hX⟩,O⟩;exact Qk (Vx O ⟨x,rfl,hX.old λj hj=>.inl (nM hj (nL ax D.size))⟩)
    refine gsc (λvs v1 D hd=>?_) ?_
    .obtain⟨x,e0,hX⟩:=hd 3;simp only[slM,e0];refine ρ ?_;exact Vx (Ext.refl _) ⟨x,rfl,hX⟩
    refine gsc (λvs v1 D hd=>?_) ?_
    .obtain⟨x,e0,hX⟩:=hd 4;simp only[slM,e0];refine ρ ?_;exact Vx (Ext.refl _) hX
    refine gsc (λvs v1 D hd=>?_) ?_
    .obtain⟨x,e0,hX⟩:=hd 4;simp only[slM,e0];refine ρ ?_;exact Vx (Ext.refl _) rfl
    refine gsc (λvs v1 D hd=>?_) gse
    simp only[slM];refine alc Ze ?_;intro v2 b9 O G J;exact Qk (Vx O ⟨b9,rfl,Nat.le_trans D.size G,J⟩)
   .intro vs v1 D hd;obtain⟨b9,e7,G,J⟩:=hd 7;have hX:RtX (Ol w1) v1 (vs 5) (PR.div qr qc):=hd 5;have e6:vs 6=_:=hd 6;obtain⟨cs,e5,hl,h1,aa⟩:=bq D hX G J;simp only[slM,e7,e5,e6];refine Zn 14 kr rfl rfl ?_;refine stb J ?_ h1 (by simp[hl]) rfl rfl (by rw[hl]);intro v2 a7 ad O;refine Qk (Qe (λh=>by cases h) ?_);refine hlist (listed':=lst 16 15) kr ?_;exact rest (b9,cs) _ _ ⟨O _ D G,G,a7,hl,aa a7 ad⟩ sB
   intro _ vs v1 D hd;obtain⟨b9,e7,G,J⟩:=hd 7;have hX:RtX (Ol w1) v1 (vs 5) (PR.div qr qc):=hd 5;obtain⟨x4,e4,co⟩:=hd 4;obtain⟨cs,e5,hl,h1,aa⟩:=bq D hX G J;simp only[slM,e7,e5,e4];refine Jqs 12 14 kr rfl rfl rfl ?_ ?_
   .refine ρ ?_;refine Qe (λ_=>Ext.refl _) ?_;refine Zn 14 kr rfl rfl ?_;refine stb J ?_ h1 (by simp[hl]) rfl rfl (by rw[hl]);intro v2 a7 ad O;refine Qk (Qe (λh=>by cases h) ?_);refine hlist (listed':=lst 16 15) kr ?_;exact rest (b9,cs) _ _ ⟨O _ D G,G,a7,hl,aa a7 ad⟩ sB
   refine stb J ?_ h1 (by simp[hl]) rfl rfl (by rw[hl]);intro v2 a7 ad O;refine Qk (Qe (λh=>by cases h) ?_);refine Zn 12 kr rfl rfl ?_;refine ρ ?_;refine Qe (λ_=>Ext.refl _) ?_;refine hlist (listed':=lst 16 15) kr ?_;exact rest (b9,cs) _ _ ⟨O _ D G,G,a7,hl,aa a7 ad⟩ sB
  rintro⟨b9,cs⟩ w4 ⟨a5,G,J,bb,bm⟩;simp only at G J bb bm;refine Zn 15 kr rfl rfl ?_;refine ρ ?_;refine Qe (λ_=>Ext.refl _) ?_;refine Zx kr ?_;have ae:Blk w4 b6 _ ls:=av.ext ((Z.trans a4).trans a5);have an:=a3.trans a5;have c4:=hT.ext an;obtain⟨A9,c9,D9,d9,rfl,bi⟩:=bm.sl;have cj:b6<w4.heap.size:=ae.lt;refine ρ ?_;refine Xg (fun (o:Int)=>[(11,.int .i64 o),(9,.pointer (some ⟨b9,0,none⟩)),(0,.pointer (some ⟨b,0,none⟩)),(1,.int .i64 (c:Int)),(5,.int .i64 (Vo (lvS t c k))),(6,.pointer (some ⟨b6,0,none⟩)),(7,.int .i64 (k:Int)),(15,.slice R t.rows.length rc),(16,.int .i64 (t.rows.length:Int)),(17,.int .i64 (k:Int))])
   (λo W=>Ext w4 W/\o=match lvS t c k with|none=>-1|some p=>PR.cmp (PR.div qr qc) p.2) ?_ ?_
  .refine ci (λh=>?_) (λh=>?_)
   .have h1:0<=Vo (lvS t c k):=oT h;obtain⟨p,a6⟩:∃ p,lvS t c k=some p:=by
     cases e:lvS t c k with
     | none=>rw[e]at h1;simp[Vo]at h1
     | some p=>exact⟨p,rfl⟩
    obtain⟨i1,i2,i3,i4⟩:=hI p a6;obtain⟨P1,p1,P2,p2,rfl,ca⟩:=i1.sl;refine ρ ?_;refine ldW J ?_;refine ρ ?_;refine ldW ae ?_;refine ρ ?_;refine cl (Qwp bi (ca.ext ((Z.trans a4).trans a5)) (λj hj=>?_) (λj hj=>nM hj (nL ax a5.size)) om om om om) ?_
    .rcases hj with hj|hj
     .exact nM hj (nL ax a5.size)
     rw[hj];exact J.lt
    rintro _ w5 ⟨rfl,ag⟩;refine ρ ?_;exact Jr _ sB ⟨ag,by rw[a6]⟩
   have h1:¬ 0<=Vo (lvS t c k):=oF h;have e:lvS t c k=none:=by
    cases e:lvS t c k with
    | none=>rfl
    | some p=>rw[e]at h1;simp[Vo]at h1
   refine ρ ?_;exact Jr _ sB ⟨Ext.refl _,by rw[e]⟩
  rintro o w5 ⟨ag,ho⟩;have af:Ext w5 w5.drew:=(Ext.refl w5).drew;have aj:=c4.ext (ag.trans af);obtain⟨S,sc,eS,cd,_⟩:=Jy aj.bas;have ak:=Rd.own (show w5.drew.ownsRow base 3 1 (.slice S t.basis.length sc) t.basis.length (Jp (nz t.basis)) by rw[<-eS];exact aj.bas);have cn:t.basis.length=t.m:=hp.basis;subst eS;refine ρ ?_;refine Xg (fun (tk:Bool)=>[(68,.bool tk),(9,.pointer (some ⟨b9,0,none⟩)),(0,.pointer (some ⟨b,0,none⟩)),(1,.int .i64 (c:Int)),(5,.int .i64 (Vo (lvS t c k))),(6,.pointer (some ⟨b6,0,none⟩)),(7,.int .i64 (k:Int)),(15,.slice R t.rows.length rc),(16,.int .i64 (t.rows.length:Int)),(17,.int .i64 (k:Int))])
   (λtk W=>Ext w5 W/\tk=lvT t k (PR.div qr qc) (lvS t c k)) ?_ ?_
  .refine dr [(0,0),(0,1),(0,2),(0,3),(0,4),(0,5),(0,6),(0,7),(0,8),(0,9),(0,10),(0,11),(0,12),(0,13),(0,14),(0,15),(0,16),(0,17),(0,18),(0,19),(0,20),(0,21),(0,22)] kr ?_;refine ρd ?_;refine dki 48 (λh=>?_) (λh=>?_)
   .have h1:o<0:=oT h;refine ρd ?_;refine Jr true sB ⟨af,?_⟩;cases e:lvS t c k with
    | none=>rfl
    | some p=>rw[e]at ho;simp only at ho;simp[lvT];left;omega
   have h1:¬ o<0:=oF h;obtain⟨p,a6⟩:∃ p,lvS t c k=some p:=by
    cases e:lvS t c k with
    | none=>rw[e]at ho;simp only at ho;omega
    | some p=>exact⟨p,rfl⟩
   obtain⟨_,_,_,i4⟩:=hI p a6;rw[a6]at ho;simp only at ho;have c0:Vo (lvS t c k)=(p.1:Int):=by rw[a6];rfl
   refine ρd ?_;refine dki 51 (λh=>?_) (λh=>?_)
   .have h2:o=0:=by simpa using h
    refine ρd ?_;refine dld (aj.blk.at (i:=4) rfl) ?_;refine ρd ?_;have bg:k<t.basis.length:=om
    have bf:p.1<t.basis.length:=om
    refine dix k ak bg ?_;refine ρd ?_;refine dld (ak.cell (Qn bg)) ?_;refine ρd ?_;refine dld (aj.blk.at (i:=4) rfl) ?_;refine ρd ?_;refine dkv 63 (u:=.int .i64 (p.1:Int)) (congrArg (Value.int .i64) c0) ?_;refine dix p.1 ak bf ?_;refine ρd ?_;refine dld (ak.cell (Qn bf)) ?_;refine ρd ?_;refine Jr (decide (((t.basis.getD k 0:Nat):Int)<((t.basis.getD p.1 0:Nat):Int))) sB ⟨af,?_⟩;rw[a6];simp only[lvT];rw[decide_eq_decide];omega
   have h2:¬ o=0:=by simpa using h
   refine ρd ?_;refine Jr false sB ⟨af,?_⟩;rw[a6];simp only[lvT];symm
   rw[decide_eq_false_iff_not];omega
  rintro tk w6 ⟨bs,bt⟩;have a9:=Qcr hqc hqr aw;rw[<-bt]at a9;have U:=ag.trans bs;have am:=an.trans U;have au:=ae.ext U;have bn:=J.ext U;have bh:=bi.ext U;refine ρ ?_;refine ci (λh=>?_) (λh=>?_)
  .rw[if_pos h]at a9;have ab:Ext w6 w6.drew:=(Ext.refl w6).drew;refine ρ ?_;refine dr [(0,0),(0,1),(0,2),(2,3)] kr ?_;refine ρd ?_;refine Qj (λj u hu=>(bn.ext ab).at hu) ?_;refine ρd ?_;refine Jf ?_;refine stb (cs':=[.bool (PR.div qr qc).neg,.slice A9 _ c9,.slice D9 _ d9]) (au.ext ab) ?_ (Qq rfl rfl rfl) (by rw[ay];rfl);intro w7 bo b7 br;have b1:Ext w w7:=br w (am.trans ab) c1;obtain⟨_,_,ee,e1,e2⟩:=(bh.ext ab);injection ee with ee
   injection ee with ee
   injection ee with _ ee
   injection ee with ea ee
   injection ee with eb _
   subst ea;subst eb;have ap:GrN (λk=>Ol w1 k∨k=b9) w6.drew w7:=GrN.by b7 λj ej=>by injection ej with ej;subst ej;exact .inl l6
   refine ρ ?_;refine Qy (k+1) [.bool (PR.div qr qc).neg,.slice A9 _ c9,.slice D9 _ d9] (by rw[a9];exact sO) ⟨om,b1,Nat.le_trans ai (nL (Z.trans a4).size (nL a5.size (nL U.size (nL ab.size b7.size)))),bo,rfl,Qq rfl rfl rfl,λp a2=>?_⟩ om;rw[a9]at a2;injection a2 with a2
   subst a2;exact⟨RtC.sta.old ⟨_,_,rfl,e1.gr ap,e2.gr ap⟩ λj hj=>.inl (.inl hj),by show(PR.div qr qc).num<=_;omega,by show(PR.div qr qc).den<=_;omega,b4⟩
  rw[if_neg (by rw[h];decide)]at a9;refine ρ ?_;refine Qy (k+1) ls (by rw[a9];exact sO) ⟨om,am,Nat.le_trans ai (nL (Z.trans a4).size (nL a5.size U.size)),au,ay,b5,λp a2=>?_⟩ om;rw[a9]at a2;obtain⟨h1,h2⟩:=hI p a2;exact⟨RtC.sta.gr h1 (GrN.ext (((Z.trans a4).trans a5).trans U)),h2⟩
 have bw:k=t.m:=by have:=oF h;omega
 subst bw;refine ρ ?_;exact Jq ⟨rfl,a8⟩
end Go.Proofs.YtebiphhfkdbpfaaGreat
namespace Go.Wk
variable {al:AL}{Q:Exit->Act->World->Prop}{l n:Nat}{P:Program}{w:World}
theorem wlab(h:QX n Q .normal al w): WC P n (.label l) Q al w:=λa i=>wp_label (h a i)
theorem Jtx{c:Code}(h:WC P n c (Exit.noGoto Q) al w): WC P n (.scope c) Q al w:=λa i=>wp_scope_straight (h a i)
theorem xret(h:QX n Q .ret al w): QX n (Exit.noGoto Q) .ret al w:=h
end Go.Wk
namespace Go.Proofs.YtebiphhfkdbpfaaGreat
open Go.RowKit Pl Go.Wk Bl
attribute [local irreducible] WC WL QX WD WDB WP WN WG WH
variable {cols j m n:Nat}{t t':PT}{S T0:QT}
theorem Qgf(hj:j<cols)(h:(t.goal.getD j pr0).sign<0)(h0:∀ i,i<j->¬ (t.goal.getD i pr0).sign<0): t.enter cols=some j:=by
 unfold PT.enter;induction cols with
 | zero=>omega
 | succ n ih=>
  rw[List.range_succ,List.find?_append];rcases Nat.lt_or_ge j n with h1|h1
  .rw[ih h1];rfl
  have e:j=n:=om
  subst e;have:(List.range j).find? (λj=>decide ((t.goal.getD j pr0).sign<0))=none:=by
   rw[List.find?_eq_none];intro i hi;simpa using h0 i (List.mem_range.1 hi)
  rw[this];simp only[List.find?_cons,h,decide_true];rfl
theorem Qgg(h0:∀ i,i<cols->¬ (t.goal.getD i pr0).sign<0): t.enter cols=none:=by
 unfold PT.enter;rw[List.find?_eq_none];intro i hi;simpa using h0 i (List.mem_range.1 hi)
theorem Qqj{q:PR}(h:q.val≠0): q.num≠0:=λe=>h (by
 unfold PR.val;rw[e];have:((0:Nat):Rat)=0:=rfl;rw[this];split<;>grind)
theorem Qqm(h:PSt n m T0 t S)(h0:∀ i j,i<m->j<n+m->isI (T0.a i j) 1)(h1:∀ i,i<m->isI (T0.b i) 1)(h2:∀ j,j<n+m->isI (T0.g j) 1)(hz:T0.z=0)(hnm:0<n+m)(hm:m<=5): TSl t:=by
 obtain⟨hr,hg⟩:=h.small h0 h1 h2 hz hnm;have a2:fct (m+1)<=720:=nL (Jqw (show m+1<=6 by omega)) (by decide);have a1:fct m<=120:=nL (Jqw hm) (by decide);have hn:=h.en;have G:=h.em;have D:=h.agr.ok;refine⟨λl hl q F=>?_,λq F=>?_⟩
 .obtain⟨i,hi,rfl⟩:=List.getElem_of_mem hl;have O:i<m:=by rw[<-G,<-D.rows];exact hi
  obtain⟨y,Z⟩:=D.row i om;have e1:t.rows.getD i []=t.rows[i]:=by simp[List.getD,List.getElem?_eq_getElem hi]
  obtain⟨j,J,rfl⟩:=List.getElem_of_mem F;have e2:t.rows[i].getD j pr0=t.rows[i][j]:=by simp[List.getD,List.getElem?_eq_getElem J]
  have U:=hr i j O (by rw[e1]at y;rw[PT.right]at y;omega);have u:=Z j (by rw[e1]at y;omega);rw[e1,e2]at U u;exact⟨u,om,om⟩
 obtain⟨y,Z⟩:=D.goal;obtain⟨j,J,rfl⟩:=List.getElem_of_mem F;have e2:t.goal.getD j pr0=t.goal[j]:=by simp[List.getD,List.getElem?_eq_getElem J]
 have U:=hg j (by rw[PT.right]at y;omega);have u:=Z j om;rw[e2]at U u;exact⟨u,om,om⟩
theorem Qcf{w:World}{base b fuel:Nat}{vr vg vb:Value}(hT:TbV w base b vr vg vb t)(hst:PSt n m T0 t S)(hsl:∀ t S,PSt n m T0 t S->TSl t)(hB:Bnd m (n+m) T0)(hmx:PT.maxim (n+m) fuel t=some t')(hn:n<=100)(hm:m<=100)(hbase:base<=w.heap.size):
  Ret Tryz.prog 86 [.pointer (some ⟨b,0,none⟩),.int .i64 ((n+m:Nat):Int)] w λu w'=>u=.tuple #[.int .i64 0,.bool true]/\∃ vg',TbV w' base b vr vg' vb t'/\GrN (TN b vr vb) w w':=by
 refine Jz Tryz.func86 Tryz.ntmps86 rfl kr rfl ?_;refine ρ ?_;refine Jtx ?_;refine wseq ?_;refine wlab ?_;refine ρ ?_;refine Qd (fun (k:Nat) (t:PT)=>[(0,.pointer (some ⟨b,0,none⟩)),(1,.int .i64 ((n+m:Nat):Int))])
  (λk t w'=>PT.maxim (n+m) k t=some t'/\(∃ S,PSt n m T0 t S)/\(∃ vg',TbV w' base b vr vg' vb t)/\GrN (TN b vr vb) w w') (λk _=>k) fuel t ?_ ⟨hmx,⟨S,hst⟩,⟨vg,hT⟩,GrN.refl _ _⟩ ?_
 .exact sB
 rintro k t w1 ⟨hmx,⟨S,hst⟩,⟨vg,hT⟩,a2⟩;have hs:=hsl t S hst;have ok:=hst.agr.ok;have am:=hst.en;have an:=hst.em;obtain⟨k,rfl⟩:∃ j,k=j+1:=by
  cases k with
  | zero=>cases hmx
  | succ j=>exact⟨j,rfl⟩
 have ak:t.goal.length=n+m+2:=by have:=ok.goal.1;rw[PT.right]at this;omega
 refine ρ ?_;refine Jh (fun (j:Nat)=>[(0,.pointer (some ⟨b,0,none⟩)),(1,.int .i64 ((n+m:Nat):Int)),(8,.int .i64 ((n+m:Nat):Int)),(9,.int .i64 (j:Int))])
  (λj w'=>j<=n+m/\Ext w1 w'/\∀ i,i<j->¬ (t.goal.getD i pr0).sign<0) (λj=>n+m-j) 0 sB ⟨Nat.zero_le _,Ext.refl _,λi hi=>absurd hi om⟩ ?_
 rintro j w2 ⟨hj,D,a1⟩;have J:=hT.ext D;refine ρ ?_;refine ci (λh=>?_) (λh=>?_)
 .have aa:j<n+m:=by have:=oT h;omega
  clear h;obtain⟨G,gc,_,rfl,_,_,ai,_,ah⟩:=id J.goal.el;obtain⟨ce,_,a6,ae⟩:=ah j om;have e1:t.goal[j]'(by omega)=t.goal.getD j pr0:=by simp[List.getD,List.getElem?_eq_getElem (show j<t.goal.length by omega)]
  have a9:Sl (t.goal.getD j pr0):=by rw[<-e1];exact hs.goal _ (List.getElem_mem _)
  simp only[e1]at a6;obtain⟨E1,x1,E2,x2,rfl,af⟩:=a6.sl;refine ρ ?_;refine ld (J.blk.at (i:=3) rfl) ?_;refine ρ ?_;refine ixq 3 j ai om ?_;refine ρ ?_;refine lds (λi u hu=>ae i u hu) ?_;refine ρ ?_;refine cl (Uk af a9.len) ?_;rintro _ w3 ⟨rfl,F⟩;have a8:=J.ext F;refine ρ ?_;refine ci (λh=>?_) (λh=>?_)
  .have ac:¬ (t.goal.getD j pr0).sign<0:=by have:=oT h;omega
   refine ρ ?_;exact Jg (j+1) sO ⟨om,D.trans F,λi hi=>by
    rcases Nat.lt_or_ge i j with h1|h1
    .exact a1 i h1
    have:i=j:=om
    subst this;exact ac⟩ om
  have a3:(t.goal.getD j pr0).sign<0:=by have:=oF h;omega
  have U:=Qgf aa a3 a1;obtain⟨_,r,y,aj,a7,O⟩:=hst.next hB U;have a5:Vo (lvS t j t.m)=(r:Int):=by
   unfold PT.leaving at y;rw[ok.rows]at y;cases e:lvS t j t.m with
   | none=>rw[e]at y;cases y
   | some p=>rw[e]at y;simp only[Option.map_some,Option.some.injEq]at y;simp[Vo,y]
  have a4:PT.maxim (n+m) k (t.pivot r j)=some t':=by
   rw[PT.maxim,U]at hmx;simp only[y]at hmx;exact hmx
  refine ρ ?_;refine cl (Qdm (c:=j) a8 ok hs om om om) ?_;rintro _ w4 ⟨rfl,Z⟩;rw[a5];refine ρ ?_;refine cl (Qvp (r:=r) (c:=j) (a8.ext Z) ok hs (hsl _ _ O) om om (Jlp (Qqj ?_)) om om (nL hbase (nL a2.size ((D.trans F).trans Z).size))) ?_
  .rw[hst.agr.a r j om om];have:=a7.pos;intro e;rw[e]at this;exact absurd this (by decide)
  rintro _ w5 ⟨rfl,vg',ag,ad⟩;refine ρ ?_;exact Qy k (t.pivot r j) sB ⟨a4,⟨_,O⟩,⟨vg',ag⟩,(a2.trans (GrN.ext ((D.trans F).trans Z))).trans ad⟩ om
 have ab:j=n+m:=by have:=oF h;omega
 subst ab;rw[PT.maxim,Qgg a1]at hmx;injection hmx with hmx
 subst hmx;refine ρ ?_;refine xret ?_;exact Xq ⟨rfl,vg,J,a2.trans (GrN.ext D)⟩
open Go.RowKit Pl Go.Wk Bl
variable {A rows':List (List PR)}{i n:Nat}
theorem Qmk(a b:Int)(w:World): (Instr.build 168 #[(0,.int .i64 a),(1,.int .i64 b)]).run Tryz.prog w=.ok (.agg #[.int .i64 a,.int .i64 b,.slice none 0 0,.slice none 0 0,.slice none 0 0]) w:=kr
theorem Jsk(A:Option Addr)(m c:Nat)(w:World): (Instr.buildSlice 120 1 #[(0,.slice A m c)]).run Tryz.prog w=.ok (.slice (some ⟨w.heap.size,0,none⟩) 1 1) (w.alloc (.cells [.slice A m c].toArray 80)):=kr
theorem Gk(z:Int)(w:World): (Instr.buildSlice 28 1 #[(0,.int .i64 z)]).run Tryz.prog w=.ok (.slice (some ⟨w.heap.size,0,none⟩) 1 1) (w.alloc (.cells [.int .i64 z].toArray 3)):=kr
theorem GX.nil{α:Type}{sz:Nat}{Φ:(Nat->Prop)->World->List Value->α->Prop}(N:Nat->Prop)(w:World): GX sz Φ N w (.slice none 0 0) ([]:List α):=⟨⟨[],none,0,rfl,rfl,Nat.le_refl _,by simp,Rd.nil,λp i=>by cases i⟩,λh=>absurd rfl h⟩
theorem Qdb{α:Type}(d:α){l k:List α}(h:l.length=k.length)(he:∀ i,i<l.length->l.getD i d=k.getD i d): l=k:=by
 refine List.ext_getElem h λi j u=>?_;have:=he i j;simpa [List.getD,List.getElem?_eq_getElem j,List.getElem?_eq_getElem u] using this
theorem Qyz(hA:Bin n A)(hi:i<A.length): (((mix (A.getD i []++List.replicate (A.length+2) pr0) (List.replicate (n+A.length+2) pr0) n).set (n+i) (PR.int 1)).set (n+A.length) (PR.int (-1))).set (n+A.length+1) (PR.int 1)=(PT.ofP n A).rows.getD i []:=by
 have F:=(hA i hi).1;have D:((PT.ofP n A).rows.getD i []).length=n+A.length+2:=by
  rw[Jqk i hi,List.length_append,List.length_append,F,List.length_map,List.length_range];rfl
 have y:=λj=>Ib hA.rok i j hi;generalize A.getD i []=a at *
 have u:(mix (a++List.replicate (A.length+2) pr0) (List.replicate (n+A.length+2) pr0) n).length=n+A.length+2:=by
  rw[Uh (by simp[F];omega) (by simp;omega)];simp
 refine Qdb pr0 (by rw[List.length_set,List.length_set,List.length_set,u,D]) λj O=>?_;rw[List.length_set,List.length_set,List.length_set,u]at O;rw[y j];have G:∀(l:List PR) (k:Nat) (x:PR),k<l.length->(l.set k x).getD j pr0=if k=j then x else l.getD j pr0:=λl k x J=>by
  by_cases h:k=j
  .subst h;simp[List.getD,J]
  simp[List.getD,List.getElem?_set_ne h,h]
 rw[G _ _ _ (by rw[List.length_set,List.length_set,u];omega),G _ _ _ (by rw[List.length_set,u];omega),G _ _ _ (by rw[u];omega)];have U:(mix (a++List.replicate (A.length+2) pr0) (List.replicate (n+A.length+2) pr0) n).getD j pr0=if j<n then(a).getD j pr0 else pr0:=by
  unfold mix;rw[Jqt,List.length_take,List.length_append,F,List.length_replicate,Nat.min_eq_left om];by_cases h:j<n
  .rw[if_pos h,if_pos h];simp only[List.getD_eq_getElem?_getD,List.getElem?_take,h,if_true,List.getElem?_append_left (show j<a.length by omega)]
  rw[if_neg h,if_neg h];simp only[List.getD_eq_getElem?_getD,List.getElem?_drop,List.getElem?_replicate];split<;>rfl
 rw[U];by_cases h1:j<n
 .rw[if_neg om,if_neg om,if_neg om,if_pos h1,if_pos h1]
 rw[if_neg h1,if_neg h1];by_cases h2:j<n+A.length
 .rw[if_neg om,if_neg om,if_pos h2];by_cases h3:n+i=j
  .rw[if_pos h3,if_pos om]
  rw[if_neg h3,if_neg om]
 rw[if_neg h2];by_cases h3:j=n+A.length
 .rw[if_neg om,if_pos h3.symm,if_pos h3]
 rw[if_pos om,if_neg h3,if_pos om]
section
variable {w w1 w2:World} {base b:Nat} {vr vr' vg vb vb':Value} {t:PT}
theorem TbV.addRow(hT:TbV w base b vr vg vb t)(ho:OX 80 1 MxC (λk=>TN b vr vb k∨w.heap.size<=k) w1 base vr' rows')(hg:w.grownBy w1 vr.ownBlock)(hn:∀ g,vr'.ownBlock=some g->vr.ownBlock=some g∨w.heap.size<=g)(hB:Blk w2 b 168 [.int .i64 (t.n:Int),.int .i64 (t.m:Int),vr',vg,vb])(hg2:w1.grownBy w2 (some b)): TbV w2 base b vr' vg vb ⟨t.n,t.m,rows',t.goal,t.basis⟩:=by
 have G:=hT.blk.lt;have j:∀ k,TN b vr' vb k->TN b vr vb k∨w.heap.size<=k:=λk i=>by
  rcases i with i|i|i
  .exact .inl (.inl i)
  .rcases hn k i with h|h
   .exact .inl (.inr (.inl h))
   exact .inr h
  exact .inl (.inr (.inr i))
 have D:vr'.ownBlock≠some b:=λe=>by
  rcases hn b e with h|h
  .exact hT.ne1 h
  omega
 obtain⟨ps,_,y,_⟩:=id hT.rows;have O:GrN (λk=>TN b vr vb k∨w.heap.size<=k) w w1:=GrN.by hg λk i=>.inl (.inr (.inl i))
 have J:GrN (λk=>TN b vr vb k∨w.heap.size<=k) w1 w2:=GrN.by hg2 λk i=>by injection i with i;exact .inl (.inl i.symm)
 refine⟨hB,(ho.gr MxC.sta (M:=λk=>k=b) (GrN.by hg2 λk i=>by injection i with i;exact i.symm) λk i=>⟨.inl (.inl i),λe=>D (by rw[e,i])⟩).old MxC.sta λk i=>.inl (j k i),?_,?_⟩
 .exact(((hT.goal.old RtC.sta (by decide) (λk i=>i)).gr RtC.sta (by decide) O).gr RtC.sta (by decide) J).old RtC.sta (by decide) λk i=>.inl (j k i)
 have u:Qz w1 base vb t.basis:=Jo hT.bas (N:=λk=>vr.ownBlock=some k) (GrN.by hg λk i=>i) λg u F=>Jzj hT.bas y kr u F;exact Jo u (N:=λk=>k=b) (GrN.by hg2 λk i=>by injection i with i;exact i.symm) λg u F=>hT.ne2 (by rw[u,F])
theorem TbV.addBas(hT:TbV w base b vr vg vb t){basis':List Nat}(ho:Qz w1 base vb' basis')(hg:w.grownBy w1 vb.ownBlock)(hn:∀ g,vb'.ownBlock=some g->vb.ownBlock=some g∨w.heap.size<=g)(hB:Blk w2 b 168 [.int .i64 (t.n:Int),.int .i64 (t.m:Int),vr,vg,vb'])(hg2:w1.grownBy w2 (some b)): TbV w2 base b vr vg vb' ⟨t.n,t.m,t.rows,t.goal,basis'⟩:=by
 have G:=hT.blk.lt;have j:∀ k,TN b vr vb' k->TN b vr vb k∨w.heap.size<=k:=λk i=>by
  rcases i with i|i|i
  .exact .inl (.inl i)
  .exact .inl (.inr (.inl i))
  rcases hn k i with h|h
  .exact .inl (.inr (.inr h))
  exact .inr h
 have y:vb'.ownBlock≠some b:=λe=>by
  rcases hn b e with h|h
  .exact hT.ne2 h
  omega
 obtain⟨ps,_,u,_⟩:=id hT.rows;have O:GrN (λk=>TN b vr vb k∨w.heap.size<=k) w w1:=GrN.by hg λk i=>.inl (.inr (.inr i))
 have J:GrN (λk=>TN b vr vb k∨w.heap.size<=k) w1 w2:=GrN.by hg2 λk i=>by injection i with i;exact .inl (.inl i.symm)
 refine⟨hB,?_,?_,Jo ho (N:=λk=>k=b) (GrN.by hg2 λk i=>by injection i with i;exact i.symm) λg F D=>y (by rw[F,D])⟩
 .have h0:=hT.rows.old MxC.sta (N':=λk=>TN b vr vb k∨w.heap.size<=k) λk i=>i;have F:=h0.gr MxC.sta (M:=λk=>vb.ownBlock=some k) (GrN.by hg λk i=>i) λk i=>⟨.inl (.inr (.inr i)),λe=>Jzj hT.bas u kr i e⟩;have D:=F.gr MxC.sta (M:=λk=>k=b) (GrN.by hg2 λk i=>by injection i with i;exact i.symm) λk i=>⟨.inl (.inl i),λe=>hT.ne1 (by rw[e,i])⟩;exact D.old MxC.sta λk i=>.inl (j k i)
 exact(((hT.goal.old RtC.sta (by decide) (λk i=>i)).gr RtC.sta (by decide) O).gr RtC.sta (by decide) J).old RtC.sta (by decide) λk i=>.inl (j k i)
end
open Go.RowKit Pl Go.Wk Bl
theorem Qbr{N:Nat->Prop}{w:World}{vC vA vB:Value}{n:Nat}{A:List (List PR)}(hC:GX 3 RtC N w vC (List.replicate n (PR.int 1)))(hA:GX 1 MxC N w vA A)(hB:GX 3 RtC N w vB (List.replicate A.length (PR.int 1)))(hbin:Bin n A)(hn:n<=64)(hm:A.length<=64):
  Ret Tryz.prog 82 [.agg #[vC,vA,vB]] w λu w'=>∃ base b vr vb,u=.pointer (some ⟨b,0,none⟩)/\w.heap.size<=base/\w.heap.size<=b/\base<=w'.heap.size/\TbV w' base b vr (.slice none 0 0) vb ⟨n,A.length,(PT.ofP n A).rows,[],(PT.ofP n A).basis⟩/\Ext w w':=by
 have av:(PT.ofP n A).rows.length=A.length:=by simp[PT.ofP]
 obtain⟨CA,cc,_,rfl,eb,_,_,_,_⟩:=id hC.el;obtain⟨AA,ac,_,rfl,fi,_,ex,_,ew⟩:=id hA.el;obtain⟨BA,bc,_,rfl,ef,_,dl,_,dk⟩:=id hB.el;simp only[List.length_replicate]at hC hB eb ef dl dk ⊢;refine Jz Tryz.func82 Tryz.ntmps82 rfl kr rfl ?_;refine ρ ?_;refine bx ?_;intro w1 b1 b9 fh bh;refine ρ ?_;refine ld (bh.at (i:=0) rfl) ?_;refine ρ ?_;refine ld (bh.at (i:=2) rfl) ?_;refine ρ ?_;refine bld (Qmk _ _ _) ?_;refine ρ ?_;refine bx ?_;intro w2 b b7 ca ds;have bz:=bh.ext b7;have a8:=b9.trans b7;have l1:=bh.lt;refine ρ ?_;refine ld (bz.at (i:=1) rfl) ?_;refine ρ ?_;refine Zk (fun (i:Nat) (vr vb:Value)=>[(1,.pointer (some ⟨b1,0,none⟩)),(3,.pointer (some ⟨b,0,none⟩)),(18,.slice AA A.length ac),(19,.int .i64 (A.length:Int)),(20,.int .i64 (i:Int))])
  (λi vr vb w'=>i<=A.length/\Ext w w'/\w2.heap.size<=w'.heap.size/\Blk w' b1 122 [.slice CA n cc,.slice AA A.length ac,.slice BA A.length bc]/\TbV w' w2.heap.size b vr (.slice none 0 0) vb ⟨n,A.length,(PT.ofP n A).rows.take i,[],(List.range i).map (n + ·)⟩) (λi _ _=>A.length-i) 0 (.slice none 0 0) (.slice none 0 0) sB
  ⟨Nat.zero_le _,a8,Nat.le_refl _,bz,ds,OX.nil _ _,GX.nil _ _,Xk _ _ _ _⟩ ?_
 rintro i vr vb w3 ⟨hi,ai,cp,az,D⟩;refine ρ ?_;refine ci (λh=>?_) (λh=>?_)
 .have F:i<A.length:=by have:=oT h;omega
  clear h;obtain⟨ce,ff,⟨va,rfl,hG⟩,ea⟩:=ew i F;have ei:A.getD i []=A[i]:=by simp[List.getD,List.getElem?_eq_getElem F]
  obtain⟨bd,dd⟩:=hbin i F;rw[<-ei]at hG;generalize haa:A.getD i []=a at *
  obtain⟨K,kc,_,rfl,e6,_,dj,_,ep⟩:=id hG.el;rw[bd]at dj e6;have bo:w3.cell? (adr AA i)=some (.slice K a.length kc):=by
   have:=Xx ai (ea 0 _ rfl);rwa [Nat.mul_one,add_zero]at this
  rw[bd]at bo;refine ρ ?_;refine ix i (ex.ext ai) F ?_;refine ρ ?_;refine ld bo ?_;refine ρ ?_;refine cl (Gf (n:=n) (m:=A.length) D.blk rfl rfl om om) ?_;rintro _ w4 ⟨rfl,J⟩;refine ρ ?_;refine Go.Wk.kv 27 (u:=.int .i64 ((n+A.length+2:Nat):Int)) (congrArg (Value.int .i64) (by show((n+A.length+1:Nat):Int)+1=_;omega)) ?_;refine cl (Jxh (n+A.length+2) om w4) ?_;rintro u w5 ⟨hU,cn⟩;have ez:=J.trans cn;obtain⟨U,uc,_,eu,fc,aw,fj⟩:=id hU.el;rw[List.length_replicate]at eu aw;subst eu;obtain⟨_,_,_,_,be⟩:=id hU.form;have bf:∀ g,(Value.slice U (n+A.length+2) uc).ownBlock=some g->Ov w4 (.slice U (n+A.length+2) uc) g:=λg hg=>.inr hg;have cz:(a++List.replicate (A.length+2) pr0).length=(List.replicate (n+A.length+2) pr0).length:=by simp[bd];omega
  refine ρ ?_;refine Jh (fun (j:Nat)=>[(1,.pointer (some ⟨b1,0,none⟩)),(3,.pointer (some ⟨b,0,none⟩)),(4,.int .i64 (i:Int)),(6,.slice U (n+A.length+2) uc),(18,.slice AA A.length ac),(19,.int .i64 (A.length:Int)),(20,.int .i64 (i:Int)),(29,.slice K n kc),(30,.int .i64 (n:Int)),(31,.int .i64 (j:Int))])
   (λj w'=>j<=n/\Ext w4 w'/\OX 84 3 RtC (Ov w4 (.slice U (n+A.length+2) uc)) w' w4.heap.size (.slice U (n+A.length+2) uc) (mix (a++List.replicate (A.length+2) pr0) (List.replicate (n+A.length+2) pr0) j)) (λj=>n-j) 0 sB ⟨Nat.zero_le _,cn,by rw[Gt];exact hU⟩ ?_
  rintro j w6 ⟨hj,ap,ax⟩;have c6:(mix (a++List.replicate (A.length+2) pr0) (List.replicate (n+A.length+2) pr0) j).length=n+A.length+2:=by rw[Uh cz (by simp;omega)];simp
  have ar:=J.trans ap;obtain⟨U',e0,_,ev,_,br,_⟩:=id ax.el;rw[c6]at ev br;injection ev with ev1 ev2 ev3
  subst ev1;obtain⟨_,_,_,_,de⟩:=id ax.form;refine ρ ?_;refine ci (λh=>?_) (λh=>?_)
  .have ba:j<n:=by have:=oT h;omega
   clear h;obtain⟨ce,_,d7,e9⟩:=ep j om;have dc:a[j]'(by omega)=a.getD j pr0:=by simp[List.getD,List.getElem?_eq_getElem (show j<a.length by omega)]
   rw[dc]at d7;have dw:=dd j ba;have cv:(a.getD j pr0).Nrm:=by
    rcases dw with e|e<;>rw[e]
    .exact Jqd
    exact PR.int_nrm 1
   have e4:=cv.norm;have f0:(a.getD j pr0).num<=1/\(a.getD j pr0).den<=1:=by rcases dw with e|e<;>rw[e]<;>decide
   have d0:(a++List.replicate (A.length+2) pr0)[j]?=some (a.getD j pr0):=by rw[List.getElem?_append_left om,<-dc];exact gE om
   generalize a.getD j pr0=q at *
   obtain⟨E1,x1,E2,x2,rfl,e3⟩:=d7.sl;have aj:=ai.trans ar;refine ρ ?_;refine ixq 3 j (dj.ext aj) ba ?_;refine ρ ?_;refine lds (λk u hu=>Xx aj (e9 k u hu)) ?_;refine ρ ?_;refine alc Ze ?_;intro w7 b8 b6 eh et;refine ρ ?_;refine stb (cs':=[.bool q.neg,.slice E1 _ x1,.slice E2 _ x2]) et ?_ (Qq rfl rfl rfl);intro w8 dn d1 e1;have a6:Ext w6 w8:=e1 w6 b6 eh;refine ρ ?_;refine ldW dn ?_;refine ρ ?_;refine cl (Zh (e3.ext (aj.trans a6)) om om) ?_;rintro r w9 ⟨hR,am⟩;rw[e4]at hR;have ao:=a6.trans am;obtain⟨G1,g1,G2,g2,rfl,c9⟩:=hR.cell;refine ρ ?_;refine ixq 3 j (br.ext ao) om ?_;refine ρ ?_;refine stX RtC.sta (ax.ext RtC.sta ao) c6.symm (show j<_ by omega) (cs:=[.bool q.neg,.slice G1 _ g1,.slice G2 _ g2]) (a:=q) (RtC.sta.old c9 λk y=>.inl ?_) bf (Qq rfl rfl rfl) ?_
   .rcases y with y|y
    .exact nM y (ap.trans a6).size
    exact nM (de k y).2 a6.size
   intro dz a5 d4;rw[Ug cz (by simp;omega) d0]at a5;refine ρ ?_;exact Jg (j+1) sO ⟨om,Js (ap.trans ao) d4 (λg hg=>(be g hg).1),a5⟩ om
  have ba:j=n:=by have:=oF h;omega
  clear h;subst ba;have eo:=D.ext ar;have f4:=az.ext ar;have c8:(mix (a++List.replicate (A.length+2) pr0) (List.replicate (j+A.length+2) pr0) j).length=j+A.length+2:=c6;have cd:∀ {w':World} {ls:List PR},OX 84 3 RtC (Ov w4 (.slice U (j+A.length+2) uc)) w' w4.heap.size (.slice U (j+A.length+2) uc) ls->Ext w4 w'->∀ k,Ov w4 (.slice U (j+A.length+2) uc) k->k<w'.heap.size:=fun {w' ls} h hx k y=>by
   rcases y with y|y
   .exact nM y hx.size
   obtain⟨_,_,_,_,h3⟩:=id h.form;exact(h3 k y).2
  have aw:∀ {w':World} {ls:List PR},OX 84 3 RtC (Ov w4 (.slice U (j+A.length+2) uc)) w' w4.heap.size (.slice U (j+A.length+2) uc) ls->ls.length=j+A.length+2->∃ cs,Rd w' 3 U (j+A.length+2) cs:=fun {w' ls} h hl=>by
   obtain⟨U',e0,cs,ev,_,hd,_⟩:=id h.el;rw[hl]at ev hd;injection ev with ev1 ev2 ev3
   subst ev1;exact⟨cs,hd⟩
  generalize hL0:mix (a++List.replicate (A.length+2) pr0) (List.replicate (j+A.length+2) pr0) j=L0 at *
  have b5:Ext w6 w6.drew:=(Ext.refl w6).drew;have ek:=eo.ext b5;refine ρ ?_;refine dr [(0,0),(0,1),(0,2),(0,3),(0,4),(0,5),(0,6),(1,7),(0,8),(2,9)] kr ?_;refine ρd ?_;refine dld (v:=.int .i64 (j:Int)) (ek.blk.at (i:=0) rfl) ?_;refine ρd ?_;refine dcl (Gl 1 (by decide) (by decide) _) ?_;rintro r w7 ⟨hR,b6⟩;refine⟨b6,?_⟩;have bi:=b5.trans b6;have dg:=ax.ext RtC.sta bi;obtain⟨_,e8⟩:=aw dg c8;obtain⟨G1,g1,G2,g2,rfl,c9⟩:=hR.cell;refine ρd ?_;refine Qp 3 (j+i) e8 om ?_;refine ρd ?_;refine Jf ?_;refine stX RtC.sta dg c8.symm (show j+i<_ by omega) (cs:=[.bool (PR.int 1).neg,.slice G1 _ g1,.slice G2 _ g2]) (a:=PR.int 1) (RtC.sta.old c9 λk y=>.inl (cd (ax.ext RtC.sta b5) (ap.trans b5) k y)) bf (Qq rfl rfl rfl) ?_;intro w8 df d1;have aq:Ext w4 w8:=Js (ap.trans bi) d1 (λg hg=>(be g hg).1);have c7:(L0.set (j+i) (PR.int 1)).length=j+A.length+2:=by rw[List.length_set];exact c8
  have en:=D.ext (J.trans aq);refine ρ ?_;refine cl (Qnk (n:=j) (m:=A.length) en.blk rfl rfl om om) ?_;rintro _ w9 ⟨rfl,am⟩;refine ρ ?_;refine cl (Gl (-1) (by decide) (by decide) _) ?_;rintro r dz ⟨hR,co⟩;have an:=am.trans co;have a5:=df.ext RtC.sta an;obtain⟨_,d6⟩:=aw a5 c7;obtain⟨H1,h1,H2,h2,rfl,da⟩:=hR.cell;refine ρ ?_;refine ixq 3 (j+A.length) d6 om ?_;refine ρ ?_;refine stX RtC.sta a5 c7.symm (show j+A.length<_ by omega) (cs:=[.bool (PR.int (-1)).neg,.slice H1 _ h1,.slice H2 _ h2]) (a:=PR.int (-1)) (RtC.sta.old da λk y=>.inl (cd (df.ext RtC.sta am) (aq.trans am) k y)) bf (Qq rfl rfl rfl) ?_;intro b4 bu d3;have G:Ext w4 b4:=Js (aq.trans an) d3 (λg hg=>(be g hg).1);have bn:((L0.set (j+i) (PR.int 1)).set (j+A.length) (PR.int (-1))).length=j+A.length+2:=by rw[List.length_set];exact c7
  have ah:Ext b4 b4.drew:=(Ext.refl b4).drew;have di:=(D.ext (J.trans G)).ext ah;have cm:=(az.ext (J.trans G)).ext ah;have au:=(ai.trans (J.trans G)).trans ah;obtain⟨cb,_,bp,d8⟩:=dk i F;have ee:(List.replicate A.length (PR.int 1))[i]'(by simpa using F)=PR.int 1:=by simp
  simp only[ee]at bp;obtain⟨F1,f1,F2,f2,rfl,eg⟩:=bp.sl;have e5:(PR.int 1).norm=PR.int 1:=(PR.int_nrm 1).norm;refine ρ ?_;refine dr [(0,0),(0,1),(0,3),(0,4),(0,5),(0,6),(0,7),(1,2),(1,8),(0,9),(2,10)] kr ?_;refine ρd ?_;refine dld (cm.at (i:=2) rfl) ?_;refine ρd ?_;refine Qp 3 i (dl.ext au) F ?_;refine ρd ?_;refine Qj (λk u hu=>Xx au (d8 k u hu)) ?_;refine ρd ?_;refine dcl (Gf (n:=j) (m:=A.length) di.blk rfl rfl om om) ?_;rintro _ f9 ⟨rfl,a3⟩;refine⟨a3,?_⟩;refine ρd ?_;refine dcl (Zh (eg.ext (au.trans a3)) (by decide) (by decide)) ?_;rintro r f8 ⟨hR,bj⟩;refine⟨bj,?_⟩;rw[e5]at hR;have a7:=(ah.trans a3).trans bj;have bt:=bu.ext RtC.sta a7;obtain⟨_,d5⟩:=aw bt bn;obtain⟨I1,i1,I2,i2,rfl,d9⟩:=hR.cell;refine ρd ?_;refine Qp 3 (j+A.length+1) d5 om ?_;refine ρd ?_;refine Jf ?_;refine stX RtC.sta bt bn.symm (show j+A.length+1<_ by omega) (cs:=[.bool (PR.int 1).neg,.slice I1 _ i1,.slice I2 _ i2]) (a:=PR.int 1) (RtC.sta.old d9 λk y=>.inl (cd (bu.ext RtC.sta (ah.trans a3)) (G.trans (ah.trans a3)) k y)) bf (Qq rfl rfl rfl) ?_
  intro dx ay d2;have a2:Ext w4 dx:=Js (G.trans a7) d2 (λg hg=>(be g hg).1);rw[<-hL0]at ay;have db:=Qyz hbin F;rw[haa]at db;rw[db]at ay;have cu:(PT.ofP j A).rows.getD i []=(PT.ofP j A).rows[i]'(by rw[av];exact F):=by simp[List.getD,List.getElem?_eq_getElem (show i<(PT.ofP j A).rows.length by rw[av];exact F)]
  have cr:((PT.ofP j A).rows.getD i []).length=j+A.length+2:=by rw[Jqk i F,haa,List.length_append,List.length_append,bd,List.length_map,List.length_range];rfl
  generalize hrw:(PT.ofP j A).rows.getD i []=rw' at *
  have bw:=D.ext (J.trans a2);have ck:=az.ext (J.trans a2);have c5:=ai.trans (J.trans a2);have bm:=nL cp (J.trans a2).size;refine ρ ?_;refine ld (bw.blk.at (i:=2) rfl) ?_;refine ρ ?_;refine bsl (Jsk _ _ _) ?_;intro b3 bb Z fg es;have ad:=bw.ext Z;have bs:=(ay.ext RtC.sta Z).old RtC.sta (N':=λk=>Ov w4 (.slice U (j+A.length+2) uc) k∨b3.heap.size<=k) λk y=>y;have ej:=D.lt;have er:GX 3 RtC (λk=>TN b vr vb k∨b3.heap.size<=k) b3 (.slice U (j+A.length+2) uc) rw':=bs.gx RtC.sta (by rw[cr];omega) λk y=>by
   obtain⟨_,_,_,_,h3⟩:=id bs.form;rcases y with y|y
   .have:=ej k y;have:=J.size;exact⟨.inl (.inl om),λe=>by have:=(h3 k e).1;omega⟩
   exact⟨.inr y,λe=>by have:=(h3 k e).2;omega⟩
  refine ρ ?_;refine apX (N:=λk=>TN b vr vb k∨b3.heap.size<=k) EMx MxC.sta (ad.rows.old MxC.sta λk y=>y) es rfl (λu hu=>by rw[List.mem_singleton.1 hu];rfl) ⟨_,rfl,er⟩ (λg hg=>.inl (.inr (.inl hg))) (by simp;omega) (by decide) (nL bm Z.size) ?_;intro vr' f7 af a4 cy;have e2:(PT.ofP j A).rows.take i++[rw']=(PT.ofP j A).rows.take (i+1):=by rw[List.take_add_one,List.getElem?_eq_getElem (by rw[av];exact F),cu];rfl
  simp only at af;rw[e2]at af;obtain⟨R',fb,ev,_,_⟩:=id af.form;subst ev;have cg:=ad.blk.grown a4 (λe=>ad.ne1 e.symm);refine ρ ?_;refine stF (i:=2) cg rfl ?_;intro ag du aa;have bv:=ad.addRow af a4 cy du aa;have em:∀ k,TN b vr vb k->w2.heap.size<=k∨k=b:=λk y=>by
   rcases y with y|y|y
   .exact .inr y
   .obtain⟨_,_,_,_,h3⟩:=id D.rows.form;exact .inl (h3 k y).1
   obtain⟨_,_,_,_,h3⟩:=Jy D.bas;exact .inl (h3 k y).1
  have fe:=ds.lt;have bq:b1≠b:=om
  have c4:=c5.trans Z;have c3:Ext w ag:=Js (Js c4 a4 λk y=>by
   obtain⟨_,_,_,_,h3⟩:=id D.rows.form;have:=(h3 k y).1;have:=a8.size;omega) aa λk y=>by injection y with y;subst y;exact nL b9.size ca
  have cj:Blk ag b1 _ _:=((ck.ext Z).grown a4 λe=>by
   obtain⟨_,_,_,_,h3⟩:=id D.rows.form;have:=(h3 b1 e.symm).1;have:=b7.size;omega).grown aa λe=>by injection e with e;exact bq e
  have bl:w2.heap.size<=ag.heap.size:=nL bm (nL Z.size (nL a4.size aa.size));obtain⟨S,sc,eS,fd,_⟩:=Jy bv.bas;have ak:Ext ag ag.drew:=(Ext.refl ag).drew;have bg:=bv.ext ak;have cw:¬ vb.ownBlock=some b:=bg.ne2;have ed:((List.range i).map (j + ·)).length=i:=by simp
  refine ρ ?_;refine drN (λk=>vb.ownBlock=some k) 18 [(0,0),(0,1),(0,2),(0,3),(0,4),(0,5),(0,6),(0,7),(0,8),(0,9),(0,10),(1,11),(1,12),(0,13),(0,14),(2,15)] kr ?_;refine ρn ?_;refine nld (λw' hg=>(Ja bg.blk hg cw).at (i:=4) rfl) ?_;refine ρn ?_;refine nld (v:=.int .i64 (j:Int)) (λw' hg=>(Ja bg.blk hg cw).at (i:=0) rfl) ?_;refine ρn ?_;refine nkv 86 (u:=.int .i64 ((j+i:Nat):Int)) (congrArg (Value.int .i64) (show(j:Int)+(i:Int)=((j+i:Nat):Int) by omega)) ?_;refine nop ?_;refine bsl (Gk _) ?_;intro f6 b2 O f3 dm;refine Qk (Qg (GrN.ext O) ?_);have ab:=bg.ext O;refine ρn ?_;refine nop ?_;refine apI (z:=j+i) ab.bas dm (by rw[ed];omega) (nL bl (ak.trans O).size) ?_;intro vb' f5 ae a1 cx;have ec:(List.range i).map (j + ·)++[j+i]=(List.range (i+1)).map (j + ·):=by rw[List.range_succ,List.map_append];rfl
  simp only at ae;rw[ec]at ae;refine Qk (Qg (GrN.by a1 λk e=>e) ?_);obtain⟨S',fa,ey,_,_⟩:=Jy ae;subst ey;have dt:=ab.blk.grown a1 (λe=>ab.ne2 e.symm);refine ρn ?_;refine Xm ?_;refine stF (i:=4) dt rfl ?_;intro c0 dq a9;have dh:=ab.addBas ae a1 cx dq a9;have c2:=c3.trans (ak.trans O);have c1:Ext w c0:=Js (Js c2 a1 λk y=>by
   obtain⟨_,_,_,_,h3⟩:=Jy D.bas;have:=(h3 k y).1;have:=a8.size;omega) a9 λk y=>by injection y with y;subst y;exact nL b9.size ca
  have ch:Blk c0 b1 _ _:=((cj.ext (ak.trans O)).grown a1 λe=>by
   obtain⟨_,_,_,_,h3⟩:=Jy D.bas;have:=(h3 b1 e.symm).1;have:=b7.size;omega).grown a9 λe=>by injection e with e;exact bq e
  have cq:w2.heap.size<=c0.heap.size:=nL bl (nL (ak.trans O).size (nL a1.size a9.size));refine Qk (Uf ?_);refine ρn ?_;refine ρ ?_;exact Qa (i+1) _ _ sO ⟨om,c1,cq,ch,dh⟩ om
 have e7:i=A.length:=by have:=oF h;omega
 subst e7;rw[<-av,List.take_length,av]at D;refine ρ ?_;exact Jq ⟨w2.heap.size,b,vr,vb,rfl,a8.size,Nat.le_trans b9.size ca,cp,D,ai⟩
end Go.Proofs.YtebiphhfkdbpfaaGreat
