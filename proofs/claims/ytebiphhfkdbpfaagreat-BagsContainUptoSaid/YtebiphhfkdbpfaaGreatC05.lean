/- Part 5. -/
import Derived.Test.YtebiphhfkdbpfaaGreatC04
import Derived.Scope
set_option linter.unusedVariables false
set_option maxRecDepth 100000
set_option maxHeartbeats 40000000
namespace Go.Proofs.YtebiphhfkdbpfaaGreat
open Bl
variable {B D c k r:Nat}
structure PR.Nrm(a:PR): Prop where
 den:a.den≠0
 cop:Nat.gcd a.num a.den=1
 sgn:a.num=0->a.neg=false
theorem PR.norm_nrm{a:PR}(h:a.den≠0): a.norm.Nrm:=by
 refine⟨(PR.norm_val h).2,?_,?_⟩
 .unfold PR.norm;split
  .simp
  rename_i h1;have i:0<Nat.gcd a.num a.den:=Nat.gcd_pos_of_pos_left _ om;simp only;rw[Nat.gcd_div (Nat.gcd_dvd_left _ _) (Nat.gcd_dvd_right _ _),Nat.div_self i]
 unfold PR.norm;split
 .intro e;simp only at e ⊢;rw[e];simp
 rename_i h1;intro e;simp only at e;obtain⟨x,j⟩:=Nat.gcd_dvd_left a.num a.den;have i:0<Nat.gcd a.num a.den:=Nat.gcd_pos_of_pos_left _ om;rw[Nat.div_eq_zero_iff]at e;have:=Nat.le_of_dvd om (Nat.gcd_dvd_left a.num a.den);omega
theorem PR.int_nrm(z:Int): (PR.int z).Nrm:=⟨by simp[PR.int],by simp[PR.int],λe=>by
 simp only[PR.int]at e ⊢;simp only[decide_eq_false_iff_not];omega⟩
theorem Jqq: pr0.Nrm:=⟨by decide,by decide,λ_=>rfl⟩
theorem PR.Nrm.norm{a:PR}(h:a.Nrm): a.norm=a:=by
 unfold PR.norm;by_cases e:a.num=0
 .rw[if_pos (.inl e)];have i:=h.cop;rw[e,Nat.gcd_zero_left]at i;have j:=h.sgn e;cases a;simp_all
 rw[if_neg (by have:=h.den;omega),h.cop];simp
theorem PR.addN_nrm{a b:PR}(ha:a.den≠0)(hb:b.den≠0): (PR.addN a b).Nrm:=by
 have i:a.den*b.den≠0:=Nat.mul_ne_zero ha hb;unfold PR.addN;split
 .exact PR.norm_nrm i
 split<;>exact PR.norm_nrm i
theorem PR.sub_nrm{a b:PR}(ha:a.den≠0)(hb:b.den≠0): (PR.sub a b).Nrm:=PR.addN_nrm (PR.norm_val ha).2 (PR.norm_val (PR.opp_val hb).2).2
theorem PR.mul_nrm{a b:PR}(ha:a.den≠0)(hb:b.den≠0): (PR.mul a b).Nrm:=PR.norm_nrm (Nat.mul_ne_zero (PR.norm_val ha).2 (PR.norm_val hb).2)
theorem PR.div_nrm{a b:PR}(ha:a.den≠0)(hb:b.den≠0)(h0:b.val≠0): (PR.div a b).Nrm:=by
 have i:=PR.norm_val hb;have hn:b.norm.num≠0:=λe=>h0 (by
  rw[<-i.1];have:=Vp i.2;simp only[PR.val,e];split<;>grind)
 unfold PR.div;rw[if_neg hn];exact PR.mul_nrm ha hn
theorem PR.Nrm.le{a:PR}(h:a.Nrm)(hq:isQ a.val B D): a.num<=B/\a.den<=D:=by
 obtain⟨_,_,⟨p,rfl,Z⟩,⟨q,rfl,F⟩,h0,i⟩:=hq;have G:q≠0:=λe=>h0 (by rw[e];rfl);have hd:=Vp h.den;have key:∃ z:Int,z.natAbs=a.num/\z*q=p*a.den:=by
  unfold PR.val at i;cases hn:a.neg
  .refine⟨a.num,by simp,?_⟩;rw[hn]at i;simp only[Bool.false_eq_true,if_false]at i;rw[<-Rat.intCast_inj,Rat.intCast_mul,Rat.intCast_mul,Rat.intCast_natCast,Rat.intCast_natCast];grind
  refine⟨-a.num,by simp,?_⟩;rw[hn]at i;simp only[if_true]at i;rw[<-Rat.intCast_inj,Rat.intCast_mul,Rat.intCast_mul,Rat.intCast_neg,Rat.intCast_natCast,Rat.intCast_natCast];grind
 obtain⟨z,y,e⟩:=key;have j:a.num*q.natAbs=p.natAbs*a.den:=by
  rw[<-y,<-Int.natAbs_mul,e,Int.natAbs_mul];simp
 have u:Nat.Coprime a.num a.den:=h.cop;have O:a.den ∣ q.natAbs:=(u.symm).dvd_of_dvd_mul_left (⟨p.natAbs,by rw[j,Nat.mul_comm]⟩);have J:a.num ∣ p.natAbs:=u.dvd_of_dvd_mul_right (⟨q.natAbs,j.symm⟩);have U:=Nat.le_of_dvd om O;refine⟨?_,om⟩;by_cases ep:p=0
 .rw[ep]at j;have:a.num*q.natAbs=0:=by rw[j];simp
  rcases Nat.mul_eq_zero.1 this with k|k
  .omega
  omega
 have:=Nat.le_of_dvd om J;omega
structure PNm(t:PT): Prop where
 row:∀ i j,i<t.m->j<t.right+1->((t.rows.getD i []).getD j pr0).Nrm
 goal:∀ j,j<t.right+1->(t.goal.getD j pr0).Nrm
theorem Jtt{row other:List PR}{f:PR}(hr:ROk k row)(ho:ROk k other)(hf:f.den≠0)(hn:∀ j,j<k->(row.getD j pr0).Nrm): ∀ j,j<k->((Zx row other f).getD j pr0).Nrm:=λj i=>by
 unfold Zx;split
 .exact hn j i
 have u:(List.zipWith (λa b=>if b.sign≠0 then PR.sub a (PR.mul f b) else a) row other).length=k:=by rw[List.length_zipWith,hr.1,ho.1,Nat.min_self]
 have key:(List.zipWith (λa b=>if b.sign≠0 then PR.sub a (PR.mul f b) else a) row other).getD j pr0=if(other.getD j pr0).sign≠0 then PR.sub (row.getD j pr0) (PR.mul f (other.getD j pr0)) else row.getD j pr0:=by
  rw[Xc pr0 om,Xc pr0 (l:=row) (by rw[hr.1];exact i),Xc pr0 (l:=other) (by rw[ho.1];exact i)];simp
 rw[key];split
 .exact PR.sub_nrm (hr.2 j i) (PR.mul_val hf (ho.2 j i)).2
 exact hn j i
theorem Qmh{row:List PR}{d:PR}(hr:ROk k row)(hd:d.den≠0)(h0:d.val≠0)(hn:∀ j,j<k->(row.getD j pr0).Nrm): ∀ j,j<k->((dvR row d).getD j pr0).Nrm:=λj i=>by
 have key:(dvR row d).getD j pr0=if(row.getD j pr0).sign≠0 then PR.div (row.getD j pr0) d else row.getD j pr0:=by
  have u:(dvR row d).length=k:=by rw[dvR,List.length_map,hr.1]
  rw[Xc pr0 om,Xc pr0 (l:=row) (by rw[hr.1];exact i)];simp[dvR]
 rw[key];split
 .exact PR.div_nrm (hr.2 j i) hd h0
 exact hn j i
theorem Qcc{t:PT}{T:QT}(h:Agr t T)(hn:PNm t)(hr:r<t.m)(hc:c<t.n+t.m)(h0:T.a r c≠0): PNm (t.pivot r c):=by
 have J:=h.ok.row r hr;have y:c<t.right+1:=by unfold PT.right;omega
 have F:((t.rows.getD r []).getD c pr0).val≠0:=by rw[h.a r c hr hc];exact h0
 have O:=(Jdc J (J.2 c y) F).1;refine⟨λi j hi D=>?_,λj D=>Jtt h.ok.goal O (h.ok.goal.2 c y) hn.goal j D⟩;have u:i<t.m:=hi;have G:j<t.right+1:=D;have e:(t.pivot r c).rows.getD i []=if i=r then dvR (t.rows.getD r []) ((t.rows.getD r []).getD c pr0) else Zx (t.rows.getD i []) (dvR (t.rows.getD r []) ((t.rows.getD r []).getD c pr0)) ((t.rows.getD i []).getD c pr0):=by
  unfold PT.pivot;exact Jwk [] [] _ (by rw[h.ok.rows];exact u)
 rw[e];split
 .exact Qmh J (J.2 c y) F (λj D=>hn.row r j hr D) j G
 exact Jtt (h.ok.row i u) O ((h.ok.row i u).2 c y) (λj D=>hn.row i j u D) j G
open Bl
variable {c m n r:Nat}{t:PT}{S T T0:QT}
namespace Bl
theorem z_isQ{m n:Nat}{T0 S:QT}(h0:∀ i j,i<m->j<n->isI (T0.a i j) 1)(h1:∀ i,i<m->isI (T0.b i) 1)(h2:∀ j,j<n->isI (T0.g j) 1)(hz:T0.z=0)(hw:WF m n S)(he:Eqv m n S T0)(hd:det m (bas T0 S)≠0)(hn:0<n): isQ S.z (fct (m+1)) (fct m):=by
 have F:∀ i j,i<m->j<m->isI (bas T0 S i j) 1:=λi j hi D=>h0 i _ hi (hw.lt j D);have u:=he.val _ (Gw hw hn 0);rw[Jkg hw hn]at u;unfold QT.val at u;rw[Kj hw hn 0 T0.g,hz]at u;have e:Jc m (λk=>T0.g (S.β k)*(S.b k-S.a k 0*0))=Jc m λk=>T0.g (S.β k)*S.b k:=by congr 1;funext k;grind
 rw[e]at u;refine⟨-(Jc m λk=>T0.g (S.β k)*det m (Jo (bas T0 S) k λi=>T0.b i)),_,?_,Gd F,hd,?_⟩
 .refine(Jch (B:=fct m) λk y=>?_).neg.mono (by rw[fct,Nat.add_mul];omega);exact((h2 _ (hw.lt k y)).mul (Gd λi j hi D=>by
   simp only[Jo];split
   .exact h1 i hi
   exact F i j hi D)).mono (by simp)
 rw[Gz (g:=λk=>det m (bas T0 S)*(T0.g (S.β k)*S.b k)) λk y=>by
  rw[Kf (x:=λk=>S.b k) y λi hi=>(Kh hw he hn hi).2];grind]
 rw[Gp];grind
theorem isQ.neg{q:Rat}{B D:Nat}(h:isQ q B D): isQ (-q) B D:=by
 obtain⟨a,d,j,i,h0,e⟩:=h;exact⟨-a,d,j.neg,i,h0,by rw[e];grind⟩
theorem isQ.mono{q:Rat}{B C D:Nat}(h:isQ q B D)(k:B<=C): isQ q C D:=by
 obtain⟨a,d,j,i,h0,e⟩:=h;exact⟨a,d,j.mono k,i,h0,e⟩
theorem Jwq(m:Nat): fct m<=fct (m+1):=by rw[fct,Nat.add_mul];omega
end Bl
structure Art(t:PT): Prop where
 row:∀ i,i<t.m->((t.rows.getD i []).getD (t.n+t.m) pr0).val = -((t.rows.getD i []).getD t.right pr0).val
 goal:(t.goal.getD (t.n+t.m) pr0).val = -(t.goal.getD t.right pr0).val
theorem Qsk(h:Agr t T)(ha:Art t)(hr:r<t.m)(hc:c<t.n+t.m)(h0:T.a r c≠0): Art (t.pivot r c):=by
 have J:=h.ok.row r hr;have D:c<t.right+1:=by unfold PT.right;omega
 have u:t.right<t.right+1:=om
 have j:t.n+t.m<t.right+1:=by unfold PT.right;omega
 have F:((t.rows.getD r []).getD c pr0).val≠0:=by rw[h.a r c hr hc];exact h0
 obtain⟨O,dv⟩:=Jdc J (J.2 c D) F;have G:=Jwv h.ok.goal O (h.ok.goal.2 c D);refine⟨λi hi=>?_,?_⟩
 .have y:i<t.m:=hi;have e:(t.pivot r c).rows.getD i []=if i=r then dvR (t.rows.getD r []) ((t.rows.getD r []).getD c pr0) else Zx (t.rows.getD i []) (dvR (t.rows.getD r []) ((t.rows.getD r []).getD c pr0)) ((t.rows.getD i []).getD c pr0):=by
   unfold PT.pivot;exact Jwk [] [] _ (by rw[h.ok.rows];exact y)
  have Z:(t.pivot r c).right=t.right:=rfl;have U:(t.pivot r c).n+(t.pivot r c).m=t.n+t.m:=rfl;rw[e,Z,U];split
  .rw[dv _ j,dv _ u,ha.row r hr];grind
  have hc:=Jwv (h.ok.row i y) O ((h.ok.row i y).2 c D);rw[hc.2 _ j,hc.2 _ u,dv _ j,dv _ u,ha.row r hr,ha.row i y];grind
 refine(G.2 _ j).trans (Eq.trans ?_ (congrArg (- ·) (G.2 _ u).symm))
 rw[dv _ j,dv _ u,ha.row r hr,ha.goal];grind
structure PSt(n m:Nat)(T0:QT)(t:PT)(S:QT): Prop where
 agr:Agr t S
 nrm:PNm t
 art:Art t
 em:t.m=m
 en:t.n=n
 wf:WF m (n+m) S
 feas:Kr m S
 e1:Eqv m (n+m) T0 S
 e2:Eqv m (n+m) S T0
 det:det m (bas T0 S)≠0
theorem PSt.pivot(h:PSt n m T0 t S)(hB:Bst m (n+m) S r c): PSt n m T0 (t.pivot r c) (S.pivot r c):=by
 obtain⟨u,hn,j,rfl,rfl,y,F,J,D,G⟩:=h;have i:S.a r c≠0:=by have:=hB.pos;grind
 refine⟨Qsq u hB.rm hB.cn i,Qcc u hn hB.rm hB.cn i,Qsk u j hB.rm hB.cn i,rfl,rfl,Jgg y hB.rm hB.cn i,Jsj hB F,J.trans (Jsm hB.rm i),(Jsn hB.rm i).trans D,?_⟩;rw[Qmz y D hB.rm hB.cn];intro e;rcases Rat.mul_eq_zero.1 e with e|e
 .exact i e
 exact G e
theorem PSt.next(h:PSt n m T0 t S)(hb:Bnd m (n+m) T0)(hc:t.enter (n+m)=some c): c<n+m/\∃ r,t.leaving c=some r/\r<m/\Bst m (n+m) S r c/\PSt n m T0 (t.pivot r c) (S.pivot r c):=by
 have F:=Jsp h.agr (cols:=n+m) (by rw[h.em,h.en];exact nR _);rw[hc]at F;obtain⟨u,J,Z⟩:=F;obtain⟨i,hi,y⟩:=hb _ h.wf h.feas h.e1 h.e2 c u J;have j:=Jpg h.agr (c:=c) (by rw[h.em,h.en];exact u) t.m (nR _);rw[h.em]at j;cases hq:lvS t c m with
 | none=>rw[hq]at j;exact absurd y (j i hi)
 | some p=>
  obtain⟨r,q⟩:=p;rw[hq]at j;obtain⟨D,U,v3,v4,O⟩:=j;have G:Bst m (n+m) S r c:=⟨D,u,J,Z,U,O⟩;exact⟨u,r,by unfold PT.leaving;rw[h.agr.ok.rows,h.em,hq];rfl,D,G,h.pivot G⟩
theorem PSt.small(h:PSt n m T0 t S)(h0:∀ i j,i<m->j<n+m->isI (T0.a i j) 1)(h1:∀ i,i<m->isI (T0.b i) 1)(h2:∀ j,j<n+m->isI (T0.g j) 1)(hz:T0.z=0)(hnm:0<n+m): (∀ i j,i<m->j<n+m+2->((t.rows.getD i []).getD j pr0).num<=fct (m+1)/\((t.rows.getD i []).getD j pr0).den<=fct m)/\∀ j,j<n+m+2->(t.goal.getD j pr0).num<=fct (m+1)/\(t.goal.getD j pr0).den<=fct m:=by
 obtain⟨y,hn,u,rfl,rfl,D,hf,e1,G,F⟩:=h;obtain⟨Z,O⟩:=Qmd h0 h1 D G F hnm;have U:=Qyq h0 h2 D G F;have J:=z_isQ h0 h1 h2 hz D G F hnm;have er:t.right=t.n+t.m+1:=rfl;refine⟨λi j hi hj=>(hn.row i j hi om).le ?_,λj hj=>(hn.goal j om).le ?_⟩
 .by_cases c1:j<t.n+t.m
  .rw[y.a i j hi c1];exact(Z i j hi c1).mono (Jwq _)
  by_cases c2:j=t.right
  .rw[c2,y.b i hi];exact(O i hi).mono (Jwq _)
  rw[show j=t.n+t.m by omega,u.row i hi,y.b i hi];exact((O i hi).mono (Jwq _)).neg
 by_cases c1:j<t.n+t.m
 .rw[y.g j c1];exact U j c1
 by_cases c2:j=t.right
 .rw[c2,y.z];exact J
 rw[show j=t.n+t.m by omega,u.goal,y.z];exact J.neg
open Bl
variable {A:List (List PR)}{fuel i j n:Nat}
def Bin(n:Nat)(A:List (List PR)): Prop:=∀ i,i<A.length->(A.getD i []).length=n/\∀ j,j<n->(A.getD i []).getD j pr0=pr0∨(A.getD i []).getD j pr0=PR.int 1
theorem Bin.rok(h:Bin n A): ∀ i,i<A.length->ROk n (A.getD i []):=λi hi=>⟨(h i hi).1,λj u=>by
 rcases(h i hi).2 j u with e|e<;>rw[e]<;>decide⟩
theorem Bin.mat(h:Bin n A)(hi:i<A.length)(hj:j<n): Xe A i j=0∨Xe A i j=1:=by
 unfold Xe;rcases(h i hi).2 j hj with e|e<;>rw[e]
 .exact .inl Il
 exact .inr Jkh
theorem Qcp(h:Bin n A): (∀ i j,i<A.length->j<n+A.length->isI ((pck n (Xe A)).a i j) 1)/\(∀ i,i<A.length->isI ((pck n (Xe A)).b i) 1)/\∀ j,j<n+A.length->isI ((pck n (Xe A)).g j) 1:=by
 have y:isI 0 1:=⟨0,rfl,by simp⟩;have u:isI 1 1:=⟨1,rfl,by simp⟩;refine⟨λi j hi D=>?_,λi hi=>u,λj D=>?_⟩
 .simp only[pck];split
  .rename_i h1;rcases h.mat hi h1 with e|e<;>rw[e]
   .exact y
   exact u
  split
  .exact u
  exact y
 simp only[pck];split
 .exact u.neg
 exact y
theorem PSt.start(h:Bin n A): PSt n A.length (pck n (Xe A)) (PT.ofP n A) (pck n (Xe A)):=by
 have y:=PR.int_nrm 1;have J:=PR.int_nrm (-1);refine⟨Qdq h.rok,⟨λi j hi D=>?_,λj D=>?_⟩,⟨λi hi=>?_,?_⟩,rfl,rfl,Jbk _ _ _,Jms _ _ _,Eqv.refl _,Eqv.refl _,?_⟩
 .have u:i<A.length:=hi;rw[Ia h.rok i j u];split
  .rename_i h1;rcases(h i u).2 j h1 with e|e<;>rw[e]
   .exact Jqq
   exact y
  split
  .split
   .exact y
   exact Jqq
  split
  .exact J
  split
  .exact y
  exact Jqq
 .rw[Jkp];split
  .exact J
  exact Jqq
 .have u:i<A.length:=hi;have G:(PT.ofP n A).n+(PT.ofP n A).m=n+A.length:=rfl;have F:(PT.ofP n A).right=n+A.length+1:=rfl;rw[Ia h.rok i _ u,Ia h.rok i _ u,G,F,if_neg om,if_neg om,if_pos rfl,if_neg om,if_neg om,if_neg om,if_pos rfl,Jmj,Jkh]
 .have G:(PT.ofP n A).n+(PT.ofP n A).m=n+A.length:=rfl;have F:(PT.ofP n A).right=n+A.length+1:=rfl;rw[Jkp,Jkp,G,F,if_neg om,if_neg om,Il];grind
 rw[Jss λi j hi D=>by unfold bas;rw[(Jbk n A.length (Xe A)).unit j i D hi]];simp
theorem PSt.ends{n m:Nat}{T0:QT}(hb:Bnd m (n+m) T0): ∀(fuel:Nat) {K:Nat} {T:Nat->QT} {R C:Nat->Nat} {t:PT},Run m (n+m) K T R C->T 0=T0->PSt n m T0 t (T K)->(n+m)^m<=K+fuel->∃ t' S,PT.maxim (n+m) fuel t=some t'/\PSt n m T0 t' S/\∀ j,j<n+m->0<=S.g j
 | 0,K,T,R,C,t,h,h0,hs,hf=>by have:=h.short;omega
 | fuel+1,K,T,R,C,t,h,h0,hs,hf=>by
  cases hl:t.enter (n+m) with
  | none=>
   have he:=Jsp hs.agr (cols:=n+m) (by rw[hs.em,hs.en];exact nR _);rw[hl]at he;exact⟨t,T K,by simp only[PT.maxim,hl],hs,he⟩
  | some c=>
   obtain⟨hc,r,hlv,hr,hB,hn⟩:=hs.next hb hl;have hrun:Run m (n+m) (K+1) (λk=>if k<=K then T k else(T K).pivot r c) (λk=>if k<K then R k else r) (λk=>if k<K then C k else c):=by
    refine⟨by simp only[Nat.zero_le,if_true];exact h.w0,by simp only[Nat.zero_le,if_true];exact h.f0,λk hk=>?_,λk hk=>?_⟩
    .rw[if_pos (show k<=K by omega)];by_cases e:k<K
     .rw[if_pos e,if_pos e];exact h.st k e
     rw[if_neg e,if_neg e,show k=K by omega];exact hB
    rw[if_pos (show k<=K by omega)];by_cases e:k<K
    .rw[if_pos e,if_pos e,if_pos (show k+1<=K by omega)];exact h.nx k e
    rw[if_neg e,if_neg e,if_neg (show¬ k+1<=K by omega),show k=K by omega]
   obtain⟨t',S,g1,g2⟩:=PSt.ends hb fuel (t:=t.pivot r c) hrun (by simp only[Nat.zero_le,if_true];exact h0) (by
    simp only[if_neg (show¬ K+1<=K by omega)];exact hn) om
   exact⟨t',S,by simp only[PT.maxim,hl,hlv];exact g1,g2⟩
theorem Jmx(h:Bin n A)(h1:∀ j,j<n->∃ i,i<A.length/\Xe A i j=1)(hf:(n+A.length)^A.length<=fuel): Bnd A.length (n+A.length) (pck n (Xe A))/\∃ t' S,PT.maxim (n+A.length) fuel (PT.ofP n A)=some t'/\PSt n A.length (pck n (Xe A)) t' S/\∀ j,j<n+A.length->0<=S.g j:=by
 have u:Bnd A.length (n+A.length) (pck n (Xe A)):=Qcq (λi j hi D=>by rcases h.mat hi D with e|e<;>rw[e]<;>grind) h1;exact⟨u,PSt.ends u fuel (K:=0) (T:=λ_=>pck n (Xe A)) (R:=λ_=>0) (C:=λ_=>0) ⟨Jbk _ _ _,Jms _ _ _,λk y=>om,λk y=>om⟩ rfl (PSt.start h) om⟩
open Bl
namespace Bl
def bpt(m:Nat)(S:QT)(v:Nat): Rat:=Jc m λi=>if S.β i=v then S.b i else 0
end Bl
theorem PSt.dual{n m:Nat}{T0 S:QT}{t:PT}(h:PSt n m T0 t S): t.dual.length=m/\∀ i,i<m->(t.dual.getD i pr0).val=S.g (n+i):=by
 obtain⟨y,hn,u,rfl,rfl,F,G,Z,U,J⟩:=h;have D:=y.ok.goal.1;have O:t.right=t.n+t.m+1:=rfl;have j:t.dual.length=t.m:=by unfold PT.dual;rw[List.length_take,List.length_drop,D];omega
 refine⟨j,λi hi=>?_⟩;rw[<-y.g (t.n+i) om,Xc pr0 om,Xc pr0 (l:=t.goal) om];simp[PT.dual]
theorem PSt.point{n m:Nat}{T0 S:QT}{t:PT}(h:PSt n m T0 t S): t.point.length=n/\∀ v,v<n->(t.point.getD v pr0).val=bpt m S v:=by
 obtain⟨u,hn,F,rfl,rfl,O,hf,e1,e2,hd⟩:=h;have hl:=u.ok.basis;have j:t.point.length=t.n:=by simp[PT.point]
 refine⟨j,λv Z=>?_⟩;rw[Xc pr0 om];simp only[PT.point,List.getElem_map,List.getElem_range];unfold bpt;cases hq:(List.range t.basis.length).reverse.find? λi=>t.basis.getD i 0 == v with
 | none=>
  simp only[];rw[Il,Jql];intro i hi;have:=List.find?_eq_none.1 hq i (by simp;omega);rw[u.β i hi]at this;rw[if_neg (by simpa using this)]
 | some i=>
  simp only[];have J:=List.find?_some hq;have y:i<t.m:=by
   have:=List.mem_of_find?_eq_some hq;simp at this;omega
  rw[u.β i y]at J;have G:S.β i=v:=by simpa using J
  rw[u.b i y,Gx y λk U D=>by
   rw[if_neg (λe=>D (O.inj U y (by rw[e,G])))],if_pos G]
end Go.Proofs.YtebiphhfkdbpfaaGreat
namespace Go.Proofs.YtebiphhfkdbpfaaGreat.Bl
variable {k m:Nat}
def cnt: Nat->(Nat->Bool)->Nat
 | 0,_=>0
 | m+1,P=>cnt m P+(P m).toNat
theorem Jth: ∀ {m:Nat} {P Q:Nat->Bool},(∀ j,j<m->P j=Q j)->cnt m P=cnt m Q
 | 0,_,_,_=>rfl
 | m+1,P,Q,h=>by rw[cnt,cnt,Jth λj hj=>h j om,h m om]
def skp(j l:Nat): Nat:=if l<j then l else l+1
theorem Jdm{P:Nat->Bool}{j:Nat}: ∀ {m:Nat},j<=m->cnt m (λl=>P (skp j l))+(P j).toNat=cnt (m+1) P
 | 0,h=>by(obtain rfl:j=0:=by omega);(simp[cnt])
 | m+1,h=>by
  by_cases e:j=m+1
  .subst e;rw[Jth (Q:=P) λl hl=>by rw[skp,if_pos hl]];simp[cnt]
  have ih:=Jdm (P:=P) (j:=j) (m:=m) om;rw[cnt,cnt];have:skp j m=m+1:=by rw[skp,if_neg om]
  rw[this];omega
theorem Jxp{p:Nat}: ∀ {q:Nat},p<=q->fct p<=fct q
 | 0,h=>by(obtain rfl:p=0:=by omega);(exact nR _)
 | q+1,h=>by
  by_cases e:p=q+1
  .rw[e];exact nR _
  have:=Jxp (p:=p) (q:=q) om;have h2:fct q<=fct (q+1):=by rw[fct,Nat.add_mul];omega
  omega
theorem Jcg{B:Nat}{f:Nat->Rat}{P:Nat->Bool}: ∀ {k:Nat},(∀ j,j<k->P j=true->isI (f j) B)->(∀ j,j<k->P j=false->f j=0)->isI (Jc k f) (cnt k P*B)
 | 0,_,_=>⟨0,rfl,by simp⟩
 | k+1,h,z=>by
  have ih:=Jcg (k:=k) (λj hj=>h j om) λj hj=>z j om;rw[Jc,cnt];cases e:P k with
  | true=>exact(ih.add (h k om e)).mono (by rw[Nat.add_mul];simp)
  | false=>
   rw[z k om e];have:Jc k f+0=Jc k f:=by grind
   rw[this];exact ih.mono (by simp)
theorem Qmw{M:MQ}(hk:k<m)(h:∀ i,i<m->M i k=0): det m M=0:=by
 have h0:=Kd M hk (λ_=>0) (λ_=>0) 1;have e:(λ_:Nat=>(0:Rat)+1*0)=λ_=>0:=by funext i;grind
 rw[e]at h0;have u:det m M=det m (Jo M k λ_=>0):=Jxt λi j hi y=>by
  simp only[Jo];split
  .rename_i hj2;rw[hj2];exact h i hi
  rfl
 rw[u];grind
def Uni(m:Nat)(M:MQ)(j:Nat): Prop:=∃ r,∀ i,i<m->M i j=if i=r then 1 else 0
theorem Jdg: ∀ {m:Nat} {M:MQ} {P:Nat->Bool},(∀ i j,i<m->j<m->isI (M i j) 1)->(∀ j,j<m->P j=false->Uni m M j)->isI (det m M) (fct (cnt m P))
 | 0,_,_,_,_=>⟨1,rfl,by simp[fct,cnt]⟩
 | m+1,M,P,h,hu=>by
  have hd:∀ j,j<m+1->isI (det m (Qt j M)) (fct (cnt m λl=>P (skp j l))):=λj hj=>Jdg (λi k hi hk=>by
   unfold Qt;split<;>exact h _ _ om om) λl hl hp=>by
   have hs:skp j l<m+1:=by unfold skp;split<;>omega
   obtain⟨r,hr⟩:=hu _ hs hp;refine⟨if r=0 then m else r-1,λi hi=>?_⟩;have:=hr (i+1) om;simp only[Qt];unfold skp at this;rw[this];by_cases e:r=0
   .rw[if_pos e,if_neg om,if_neg om]
   rw[if_neg e];by_cases e2:i+1=r
   .rw[if_pos e2,if_pos om]
   rw[if_neg e2,if_neg om]
  rw[det];rcases Classical.em (∃ j,j<m+1/\P j=false/\M 0 j=1) with⟨j,hj,hp,h1⟩|hno
  .obtain⟨r,hr⟩:=hu j hj hp;have hr0:r=0:=by
    have:=hr 0 om;by_cases e:r=0
    .exact e
    rw[if_neg (λh=>e h.symm),h1]at this;simp at this
   rw[Gx hj λl hl hne=>by
    rw[Qmw (m:=m) (M:=Qt l M) (k:=if j<l then j else j-1) (by split<;>omega) λi hi=>by
     simp only[Qt];have e:(if(if j<l then j else j-1)<l then(if j<l then j else j-1) else(if j<l then j else j-1)+1)=j:=by
      by_cases e:j<l
      .rw[if_pos e,if_pos e]
      rw[if_neg e,if_neg om];omega
     rw[e,hr (i+1) om,if_neg om]]
    grind]
   have hc:=Jdm (P:=P) (m:=m) (j:=j) om;rw[hp]at hc;have h2:=((Jcj j).mul (h 0 j om hj)).mul (hd j hj);exact h2.mono (by rw[<-hc];simp)
  have hz:∀ j,j<m+1->P j=false->sg j*M 0 j*det m (Qt j M)=0:=λj hj hp=>by
   obtain⟨r,hr⟩:=hu j hj hp;have h0:=hr 0 om;have:M 0 j=0:=by
    by_cases e:0=r
    .rw[if_pos e]at h0;exact absurd ⟨j,hj,hp,h0⟩ hno
    rw[if_neg e]at h0;exact h0
   rw[this];grind
  have ht:∀ j,j<m+1->P j=true->isI (sg j*M 0 j*det m (Qt j M)) (fct (cnt (m+1) P-1)):=λj hj hp=>by
   have hc:=Jdm (P:=P) (m:=m) (j:=j) om;rw[hp]at hc;have e:cnt (m+1) P-1=cnt m λl=>P (skp j l):=by rw[<-hc];simp
   rw[e];exact(((Jcj j).mul (h 0 j om hj)).mul (hd j hj)).mono (by simp)
  have hs:=Jcg ht hz;refine hs.mono ?_;cases e:cnt (m+1) P with
  | zero=>simp
  | succ q=>simp[fct]
end Go.Proofs.YtebiphhfkdbpfaaGreat.Bl
namespace Go.Proofs.YtebiphhfkdbpfaaGreat
open Bl
namespace Bl
variable {B k m n:Nat}
theorem Jtg{P:Nat->Bool}: ∀ m,cnt m P=((List.range m).filter P).length
 | 0=>rfl
 | m+1=>by
  rw[cnt,Jtg m,List.range_succ,List.filter_append,List.length_append];cases e:P m<;>simp[e]
theorem cnt_le{P:Nat->Bool}{f:Nat->Nat}(h:∀ k,k<m->P k=true->f k<n)(hi:∀ k l,k<m->l<m->P k=true->P l=true->f k=f l->k=l): cnt m P<=n:=by
 rw[Jtg,<-List.length_map (f:=f)];refine Jks n ?_ λu j=>?_
 .unfold List.Nodup;rw[List.pairwise_map];have hn:((List.range m).filter P).Pairwise (λa b=>a<b):=List.Pairwise.filter _ List.pairwise_lt_range;refine hn.imp_of_mem fun {a b} ha hb hab e=>?_
  simp only[List.mem_filter,List.mem_range]at ha hb;have:=hi a b ha.1 hb.1 ha.2 hb.2 e;omega
 obtain⟨k,i,rfl⟩:=List.mem_map.1 j;simp only[List.mem_filter,List.mem_range]at i;exact h k i.1 i.2
variable {n m:Nat} {A:MQ} {S:QT}
theorem Qjt(hw:WF m (n+m) S)(hk:k<m)(h:¬ S.β k<n): Uni m (bas (pck n A) S) k:=⟨S.β k-n,λi hi=>by
 simp only[bas,pck];rw[if_neg h];by_cases e:S.β k-n=i
 .rw[if_pos e,if_pos e.symm]
 rw[if_neg e,if_neg (λh=>e h.symm)]⟩
theorem Qsd(h0:∀ i j,i<m->j<n+m->isI ((pck n A).a i j) 1)(hw:WF m (n+m) S): isI (det m (bas (pck n A) S)) (fct n):=by
 refine(Jdg (P:=λk=>decide (S.β k<n)) (λi j hi y=>h0 i _ hi (hw.lt j y)) λj y u=>Qjt hw y (by simpa using u)).mono (Jxp (cnt_le (f:=S.β) (λk D u=>by simpa using u) λk l D F _ _ e=>hw.inj D F e))
theorem Jvd(h0:∀ i j,i<m->j<n+m->isI ((pck n A).a i j) 1)(hw:WF m (n+m) S)(hk:k<m){v:Nat->Rat}(hv:∀ i,i<m->isI (v i) 1): isI (det m (Jo (bas (pck n A) S) k v)) (fct (n+1)):=by
 refine(Jdg (P:=λl=>l == k || decide (S.β l<n)) (λi j hi F=>?_) λj F u=>?_).mono (Jxp (cnt_le (f:=λl=>if l=k then n else S.β l) (λl G u=>?_) λl J G D u y e=>?_))
 .simp only[Jo];split
  .exact hv i hi
  exact h0 i _ hi (hw.lt j F)
 .simp only[Bool.or_eq_false_iff,beq_eq_false_iff_ne,decide_eq_false_iff_not]at u;obtain⟨r,O⟩:=Qjt (A:=A) hw F u.2;exact⟨r,λi hi=>by simp only[Jo];rw[if_neg u.1];exact O i hi⟩
 .simp only[Bool.or_eq_true,beq_iff_eq,decide_eq_true_eq]at u;split<;>omega
 simp only[Bool.or_eq_true,beq_iff_eq,decide_eq_true_eq]at u y;by_cases e1:l=k<;>by_cases e2:J=k
 .omega
 .rw[if_pos e1,if_neg e2]at e;omega
 .rw[if_neg e1,if_pos e2]at e;omega
 rw[if_neg e1,if_neg e2]at e;exact hw.inj G D e
theorem Qjv(hw:WF m (n+m) S){f:Nat->Rat}(hf:∀ k,k<m->isI (f k) B): isI (Jc m λk=>(pck n A).g (S.β k)*f k) (n*B):=by
 refine(Jcg (P:=λk=>decide (S.β k<n)) (B:=B) (λk j i=>?_) λk j i=>?_).mono (nO B (cnt_le (f:=S.β) (λk j i=>by simpa using i) λk l j u _ _ e=>hw.inj j u e))
 .simp only[pck];rw[if_pos (by simpa using i)];exact(isI.mul (p:=-1) (B:=1) ⟨-1,rfl,by simp⟩ (hf k j)).mono (by simp)
 simp only[pck];rw[if_neg (by simpa using i)];grind
end Bl
theorem PSt.few{n m:Nat}{A:MQ}{S:QT}{t:PT}(h:PSt n m (pck n A) t S)(h0:∀ i j,i<m->j<n+m->isI ((pck n A).a i j) 1)(hnm:0<n+m): (∀ i j,i<m->j<n+m+2->((t.rows.getD i []).getD j pr0).num<=fct (n+1)/\((t.rows.getD i []).getD j pr0).den<=fct n)/\∀ j,j<n+m+2->(t.goal.getD j pr0).num<=(n+1)*fct (n+1)/\(t.goal.getD j pr0).den<=fct n:=by
 obtain⟨G,hn,F,rfl,rfl,y,hf,e1,Z,U⟩:=h;have er:t.right=t.n+t.m+1:=rfl;have J:=Qsd h0 y;have i1:∀ i,i<t.m->isI ((pck t.n A).b i) 1:=λi hi=>⟨1,rfl,by simp⟩;have cA:∀ k c,k<t.m->c<t.n+t.m->Bl.det t.m (Jo (bas (pck t.n A) S) k λi=>(pck t.n A).a i c)=S.a k c*Bl.det t.m (bas (pck t.n A) S):=λk c u D=>Kf (x:=λk=>S.a k c) u λi hi=>(Kh y Z D hi).1;have cB:∀ k,k<t.m->Bl.det t.m (Jo (bas (pck t.n A) S) k λi=>(pck t.n A).b i)=S.b k*Bl.det t.m (bas (pck t.n A) S):=λk u=>Kf (x:=λk=>S.b k) u λi hi=>(Kh y Z hnm hi).2;have k1:∀ k c,k<t.m->c<t.n+t.m->isQ (S.a k c) (fct (t.n+1)) (fct t.n):=λk c u D=>⟨_,_,Jvd h0 y u λi hi=>h0 i c hi D,J,U,by rw[cA k c u D];grind⟩;have k2:∀ k,k<t.m->isQ (S.b k) (fct (t.n+1)) (fct t.n):=λk u=>⟨_,_,Jvd h0 y u i1,J,U,by rw[cB k u];grind⟩;have a1:fct t.n<=fct (t.n+1):=Jwq _;have k3:∀ c,c<t.n+t.m->isQ (S.g c) ((t.n+1)*fct (t.n+1)) (fct t.n):=λc D=>by
  refine⟨(pck t.n A).g c*Bl.det t.m (bas (pck t.n A) S) + -(Jc t.m λk=>(pck t.n A).g (S.β k)*Bl.det t.m (Jo (bas (pck t.n A) S) k λi=>(pck t.n A).a i c)),_,?_,J,U,?_⟩
  .have hg:isI ((pck t.n A).g c) 1:=by
    simp only[pck];split
    .exact⟨-1,rfl,by simp⟩
    exact⟨0,rfl,by simp⟩
   exact((hg.mul J).add (Qjv y λk u=>Jvd h0 y u λi hi=>h0 i c hi D).neg).mono (by rw[Nat.add_mul];omega)
  have h:=Jbd y Z D;rw[Gz (g:=λk=>Bl.det t.m (bas (pck t.n A) S)*((pck t.n A).g (S.β k)*S.a k c)) λk u=>by rw[cA k c u D];grind];rw[Gp];grind
 have k4:isQ S.z ((t.n+1)*fct (t.n+1)) (fct t.n):=by
  have O:=Z.val _ (Gw y hnm 0);rw[Jkg y hnm]at O;unfold QT.val at O;rw[Kj y hnm 0 (pck t.n A).g]at O;have e:Jc t.m (λk=>(pck t.n A).g (S.β k)*(S.b k-S.a k 0*0))=Jc t.m λk=>(pck t.n A).g (S.β k)*S.b k:=by congr 1;funext k;grind
  have ez:(pck t.n A).z=0:=rfl;rw[e,ez]at O;refine⟨-(Jc t.m λk=>(pck t.n A).g (S.β k)*Bl.det t.m (Jo (bas (pck t.n A) S) k λi=>(pck t.n A).b i)),_,(Qjv y λk u=>Jvd h0 y u i1).neg.mono (by rw[Nat.add_mul];omega),J,U,?_⟩;rw[Gz (g:=λk=>Bl.det t.m (bas (pck t.n A) S)*((pck t.n A).g (S.β k)*S.b k)) λk u=>by rw[cB k u];grind];rw[Gp];grind
 refine⟨λi j hi hj=>(hn.row i j hi om).le ?_,λj hj=>(hn.goal j om).le ?_⟩
 .by_cases c1:j<t.n+t.m
  .rw[G.a i j hi c1];exact k1 i j hi c1
  by_cases c2:j=t.right
  .rw[c2,G.b i hi];exact k2 i hi
  rw[show j=t.n+t.m by omega,F.row i hi,G.b i hi];exact(k2 i hi).neg
 by_cases c1:j<t.n+t.m
 .rw[G.g j c1];exact k3 j c1
 by_cases c2:j=t.right
 .rw[c2,G.z];exact k4
 rw[show j=t.n+t.m by omega,F.goal,G.z];exact k4.neg
namespace Nw
variable {n p x:Nat}
theorem Jfp(z x:Int)(hz:0<=z)(hx:0<=x): ∀ n:Nat,((n:Int)+1)*z*x^n<=z^(n+1)+n*x^(n+1)
 | 0=>by simp[Int.pow_succ]
 | n+1=>by
  have ih:=Jfp z x hz hx n;have h1:z*(((n:Int)+1)*z*x^n)<=z*(z^(n+1)+n*x^(n+1)):=Int.mul_le_mul_of_nonneg_left ih hz;have h2:0<=((n:Int)+1)*x^n*((x-z)*(x-z)):=Int.mul_nonneg (Int.mul_nonneg om (Int.pow_nonneg hx)) (by
   rcases Int.le_total 0 (x-z) with h|h
   .exact Int.mul_nonneg h h
   have:=Int.mul_nonneg (show 0<=-(x-z) by omega) (show 0<=-(x-z) by omega);rwa [Int.neg_mul_neg]at this)
  have e:z^(n+1+1)+((n+1:Nat):Int)*x^(n+1+1)-(((n+1:Nat):Int)+1)*z*x^(n+1)=(z*(z^(n+1)+n*x^(n+1))-z*(((n:Int)+1)*z*x^n))+((n:Int)+1)*x^n*((x-z)*(x-z)):=by
   rw[Int.natCast_add];grind
  omega
def Jzg(p n x:Nat): Prop:=x^n<=p/\p<(x+1)^n
theorem Qvv{y:Nat}(hx:Jzg p n x)(hy:Jzg p n y): x=y:=by
 rcases Nat.lt_trichotomy x y with h|h|h
 .have:=Nat.pow_le_pow_left (show x+1<=y by omega) n;have:=hx.2;have:=hy.1;omega
 .exact h
 have:=Nat.pow_le_pow_left (show y+1<=x by omega) n;have:=hy.2;have:=hx.1;omega
def step(p n x:Nat): Nat:=((n-1)*x+p / x^(n-1)) / n
theorem Jhg(hn:0<n)(hx:0<x): p<(step p n x+1)^n:=by
 obtain⟨k,rfl⟩:∃ k,n=k+1:=⟨n-1,om⟩;simp only[step,Nat.add_sub_cancel];generalize hq:p / x^k=q
 generalize hy:(k*x+q) / (k+1)=y
 have i:0<x^k:=Nat.pow_pos hx;have J:p<(q+1)*x^k:=by
  have:=Nat.div_add_mod p (x^k);have:=Nat.mod_lt p i;rw[hq]at *;grind
 have G:k*x+q+1<=(k+1)*(y+1):=by
  have:=Nat.div_add_mod (k*x+q) (k+1);have:=Nat.mod_lt (k*x+q) (show 0<k+1 by omega);rw[hy]at *;grind
 have j:=Jfp ((y+1:Nat):Int) (x:Int) om om k;have F:(((q+1)*x^k+k*x^(k+1):Nat):Int)<=(((k+1)*(y+1)*x^k:Nat):Int):=by
  have:=nO (x^k) G;have e:(k*x+q+1)*x^k=(q+1)*x^k+k*x^(k+1):=by grind
  rw[e]at this;exact Int.ofNat_le.2 this
 have D:(((k+1)*(y+1)*x^k:Nat):Int)=((k:Int)+1)*((y+1:Nat):Int)*(x:Int)^k:=by
  rw[Int.natCast_mul,Int.natCast_mul,Int.natCast_add,Int.natCast_pow];rfl
 have u:(((y+1)^(k+1)+k*x^(k+1):Nat):Int)=((y+1:Nat):Int)^(k+1)+(k:Int)*(x:Int)^(k+1):=by
  rw[Int.natCast_add,Int.natCast_mul,Int.natCast_pow,Int.natCast_pow]
 rw[<-D,<-u]at j;have:=Int.ofNat_le.1 (Int.le_trans F j);omega
theorem Qwf(hn:0<n)(hx:0<x)(h:x<=step p n x): x^n<=p:=by
 obtain⟨k,rfl⟩:∃ k,n=k+1:=⟨n-1,om⟩;simp only[step,Nat.add_sub_cancel]at h;have j:x*(k+1)<=k*x+p / x^k:=(Nat.le_div_iff_mul_le om).1 h;have i:x<=p / x^k:=by grind
 have:=(Nat.le_div_iff_mul_le (Nat.pow_pos hx)).1 i;rw[Nat.pow_succ];grind
theorem Qwg(hn:1<n)(hp:0<p)(hx:0<x): 0<step p n x:=by
 have h:=Jhg (p:=p) (n:=n) om hx;rcases Nat.eq_zero_or_pos (step p n x) with h0|h0
 .rw[h0,Nat.zero_add,Nat.one_pow]at h;omega
 exact h0
end Nw
open Go.RowKit Pl Go.Wk
attribute [local irreducible] WC WL QX WD WDB WP WN WG WH
variable {b2 m n:Nat}{q:PR}{a p u v y:Value}{w w' w1:World}
def RtX(N:Nat->Prop)(w:World)(v:Value)(q:PR): Prop:=∃ x y,v=.agg #[.bool q.neg,x,y]/\NatX N w x q.num/\NatX N w y q.den
def RtC(N:Nat->Prop)(w:World)(cs:List Value)(q:PR): Prop:=∃ x y,cs=[.bool q.neg,x,y]/\NatX N w x q.num/\NatX N w y q.den
section
variable {N N':Nat->Prop} {w w':World} {v:Value} {cs:List Value} {q:PR}
theorem RtX.gr(h:RtX N w v q)(hg:GrN N w w'): RtX N w' v q:=by
 obtain⟨x,y,e,j,i⟩:=h;exact⟨x,y,e,j.gr hg,i.gr hg⟩
theorem RtX.ext(h:RtX N w v q)(hx:Ext w w'): RtX N w' v q:=h.gr (GrN.ext hx)
theorem RtX.old(h:RtX N w v q)(hN:∀ k,N' k->N k∨w.heap.size<=k): RtX N' w v q:=by
 obtain⟨x,y,e,j,i⟩:=h;exact⟨x,y,e,j.old hN,i.old hN⟩
theorem RtC.sta: Sta RtC:=⟨λh u=>by
 obtain⟨x,y,e,j,i⟩:=h;exact⟨x,y,e,j.gr u,i.gr u⟩,λh D=>by
 obtain⟨x,y,e,j,i⟩:=h;exact⟨x,y,e,j.old D,i.old D⟩⟩
theorem RtX.c(h:RtX N w v q): ∃ cs,v=.agg cs.toArray/\RtC N w cs q:=by
 obtain⟨x,y,e,j,i⟩:=h;exact⟨_,e,x,y,rfl,j,i⟩
theorem RtC.x(h:RtC N w cs q): RtX N w (.agg cs.toArray) q:=by
 obtain⟨x,y,rfl,j,i⟩:=h;exact⟨x,y,rfl,j,i⟩
end
theorem Qgw(h:n≠0): Jw n=32*((Jj n).length-1)+Jw ((Jj n).getD ((Jj n).length-1) 0).toNat:=by
 obtain⟨l,c,y,J⟩:=Jpn h;have Z:c.toNat≠0:=λe=>J (UInt32.toNat_inj.1 e);have j:=Zl n;rw[y,Uy]at j;simp only[Pl.val,Nat.mul_zero,Nat.add_zero]at j;have i:=Jqd l;have D:4294967296^l.length=2^(32*l.length):=by rw[Nat.pow_mul]
 rw[D]at j i;have F:0<2^(32*l.length):=Nat.two_pow_pos _;have U:(Jj n).length-1=l.length:=by rw[y];simp
 have O:(Jj n).getD l.length 0=c:=by rw[y];simp[List.getD]
 rw[U,O];have u:2^(32*l.length)<=n:=by
  have:=Nat.mul_le_mul_left (2^(32*l.length)) (show 1<=c.toNat by omega);omega
 have G:n / 2^(32*l.length)=c.toNat:=by
  rw[<-j,Nat.add_mul_div_left _ _ F,Nat.div_eq_of_lt i,Nat.zero_add]
 rw[Jjf u,G]
theorem Yd(hv:NatV w v n)(hs:(Jj n).length<=1000): Ret Tryz.prog 102 [v] w λr w'=>r=.int .i64 (Jw n:Int)/\w'=w:=by
 refine Jz Tryz.func102 Tryz.ntmps102 rfl kr rfl ?_;refine ρ ?_;refine cl (Ze hv) ?_;rintro u w' ⟨⟨A,rfl,i⟩,rfl⟩;refine ρ ?_;refine ci (λh=>?_) (λh=>?_)
 .have h0:n=0:=by
   have:=oT h;rcases Nat.eq_zero_or_pos n with h1|h1
   .exact h1
   have:=limbs_pos' (n:=n) om;omega
  subst h0;refine ρ ?_;exact Jq ⟨rfl,rfl⟩
 have j:0<(Jj n).length:=by
  have:=oF h;omega
 have h0:n≠0:=Jpm j;refine ρ ?_;refine ix ((Jj n).length-1) i om ?_;refine ρ ?_;refine ld (i.cell (Xv (show(Jj n).length-1<(Jj n).length by omega))) ?_;refine ρ ?_;refine cl (Qhb _ (UInt32.toNat_lt _) w') ?_;rintro _ w1 ⟨rfl,rfl⟩;have:=Yg (x:=((Jj n).getD ((Jj n).length-1) 0).toNat) (k:=32) (UInt32.toNat_lt _);refine ρ ?_;refine Jq ⟨congrArg (Value.int .i64) ?_,rfl⟩;rw[Qgw h0];omega
abbrev Ol(w:World): Nat->Prop:=λk=>k<w.heap.size
theorem NatX.ol(h:NatX (Ol w1) w' v n)(hx:Ext w w1): NatX (Ol w) w' v n:=h.old λk i=>.inl (nM i hx.size)
theorem RtX.ol(h:RtX (Ol w1) w' v q)(hx:Ext w w1): RtX (Ol w) w' v q:=h.old λk i=>.inl (nM i hx.size)
theorem Fresh.o(h:Fresh w v)(hn:NatV w' v n): NatX (Ol w) w' v n:=h.x hn λ_ i=>i
theorem NatV.one(h:NatV w v n): v.oneCell'=true:=by obtain⟨A,c,rfl,_⟩:=h;rfl
def SF.nx(N:Nat->Prop)(n:Nat): SF:=⟨λv w=>NatX N w v n,λh hx=>h.ext hx⟩
theorem Xa(n:Nat)(h:n<18446744073709551616)(w:World): Ret Tryz.prog 30 [.int .u64 (n:Int)] w λv w'=>NatX (Ol w) w' v n/\Ext w w':=by
 refine Jz Tryz.func30 Tryz.ntmps30 rfl kr rfl ?_;refine ρ ?_;refine Vx rfl rfl (by decide) rfl ?_;refine ρ ?_;refine bsl (bsN _ _) ?_;intro w1 b j y i;rw[Vr,Jgt]at i;have u:Rd w1 1 (some ⟨b,0,none⟩) 2 (Nc [UInt32.ofNat n,UInt32.ofNat (n / 4294967296)]):=i.rd rfl;refine ρ ?_;refine cl (Gm (l:=[UInt32.ofNat n,UInt32.ofNat (n / 4294967296)]) (c:=2) u (nR _) (by simp)) ?_;rintro v w2 ⟨rfl,rfl⟩;have:=Ik u (by simp);rw[Jgm n h]at this ⊢;refine ρ ?_;exact Jq ⟨⟨this,λ_ F _ _ e D=>by grind⟩,j⟩
theorem Jjc(hv:NatV w v n)(hu:NatV w u m)(hn:(Jj n).length<=1000)(h0:0<m)(hm:m<4294967296):
  Ret Tryz.prog 94 [v,u] w λr w'=>(∃ x y,r=.tuple #[x,y,.int .i64 0]/\NatX (Ol w) w' x (n / m)/\NatX (Ol w) w' y (n % m))/\Ext w w':=by
 have G:Jj m=[UInt32.ofNat m]:=Jpl om hm;refine Jz Tryz.func94 Tryz.ntmps94 rfl kr rfl ?_;refine ρ ?_;refine cl (Ze hv) ?_;rintro v' w' ⟨⟨A,rfl,ha⟩,rfl⟩;refine ρ ?_;refine cl (Ze hu) ?_;rintro u' D ⟨⟨B,rfl,hb⟩,rfl⟩;rw[G]at hb ⊢;refine ρ ?_;refine cl (Jxf (n:=n) (m:=m) ⟨A,_,rfl,Nat.le_refl _,om,ha⟩ ⟨B,1,by rw[G],by rw[G];simp,by rw[G];simp,by rw[G];exact hb⟩) ?_;rintro t w' ⟨rfl,i⟩;refine ρ ?_;refine ci (λh=>?_) (λh=>?_)
 .have a1:n<m:=by
   have:=oT h;unfold Vm at this;grind
  refine ρ ?_;refine cl (Jdr (ha.ext i) (Jvj _) om) ?_;rintro v' w1 ⟨Z,hx⟩;obtain⟨A',c',rfl,hc,hf⟩:=Jy Z;refine ρ ?_;refine fin3 ⟨⟨.slice none 0 0,_,rfl,?_,?_⟩,i.trans hx⟩
  .rw[Nat.div_eq_of_lt a1];exact NatX.nil _
  rw[Nat.mod_eq_of_lt a1];exact⟨⟨A',c',rfl,hc,om,Rd.own Z⟩,λ_ ad m c e hk=>by
   injection e with e1 e2 e3
   subst e1;have:=(hf ad.block rfl).1;have:=i.size;have a5:ad.block<D.heap.size:=hk;omega⟩
 refine ρ ?_;refine cl (Jdr (ha.ext i) (Jvj _) om) ?_;rintro q w1 ⟨Z,U⟩;obtain⟨A',c',rfl,hc,hf⟩:=Jy Z;have a2:=(hb.ext i).ext U;refine ρ ?_;refine ix 0 a2 (by simp) ?_;refine ρ ?_;refine ld (a2.cell (Xv (l:=[UInt32.ofNat m]) (k:=0) (by simp))) ?_;have em:(([UInt32.ofNat m].getD 0 0).toNat:Int)=(m:Int):=by grind [UInt32.ofNat,UInt32.toNat_ofNat',Nat.mod_eq_of_lt]
 rw[em];refine ρ ?_;refine cl (Qmq rfl om Z h0 hm) ?_;rintro r w2 ⟨rfl,⟨os,a3,j,a4⟩,a6⟩;rw[Zl]at j ⊢;have O:Ext D w2:=Jh (i.trans U) a6 (λk e=>nL i.size (hf k e).1);have F:=Rd.own a4;rw[<-a3]at F hc ⊢;refine ρ ?_;refine cl (Gm F hc om) ?_;rintro t w3 ⟨rfl,rfl⟩;have:=Ik F om;rw[j]at this ⊢;have hr:n % m<m:=Nat.mod_lt _ h0;refine ρ ?_;rw[Yp om];refine cl (Xa (n % m) om _) ?_;rintro y w4 ⟨hy,J⟩;refine ρ ?_;refine fin3 ⟨⟨_,y,rfl,⟨this.ext J,λ_ ad m c e hk=>?_⟩,hy.ol O⟩,O.trans J⟩;injection e with e1 e2 e3
 subst e1;have:=(hf ad.block rfl).1;have:=i.size;have a5:ad.block<D.heap.size:=hk;omega
theorem Vq: Xz Tryz.prog 84=some (.agg #[.bool false,.slice none 0 0,.slice none 0 0]):=kr
theorem NatV.sl(h:NatV w v n): ∃ A c,v=.slice A (Jj n).length c:=by obtain⟨A,c,e,_⟩:=h;exact⟨A,c,e⟩
theorem Ym(b:Bool)(A B:Option Addr)(m c m' c':Nat)(w:World): (Instr.build 84 #[(0,.bool b),(1,.slice A m c),(2,.slice B m' c')]).run Tryz.prog w=.ok (.agg #[.bool b,.slice A m c,.slice B m' c']) w:=kr
theorem zFnN: Xz Tryz.prog 174=some .nilFunc:=kr
theorem Qlr{x:Value}(hx:NatV w x n)(hy:NatV w y m)(hn:n<18446744073709551616)(hm:m<18446744073709551616)(h0:0<m):
  Ret Tryz.prog 160 [x,y,p] w λr w'=>NatX (Ol w) w' r (Nat.gcd n m)/\Ext w w':=by
 have ln:=Qs hn;have lm:=Qs hm;have hb:=(Gy (x:=m) om).1;refine Jz Tryz.func160 Tryz.ntmps160 rfl kr rfl ?_;refine ρ ?_;refine cl (Yd hy om) ?_;rintro _ w ⟨rfl,rfl⟩;refine ρ ?_;refine cf ?_ ?_
 .simp;omega
 refine ρ ?_;refine cl (Jbr hx hn) ?_;rintro _ w ⟨rfl,rfl⟩;refine ρ ?_;refine cl (Jbr hy hm) ?_;rintro _ w ⟨rfl,rfl⟩;refine ρ ?_;refine Qw (fun (a b:Nat)=>[(0,x),(1,y),(2,p),(6,.int .u64 (a:Int)),(8,.int .u64 (b:Int))]) (λa b w'=>Ext w w'/\a<18446744073709551616/\b<18446744073709551616/\Nat.gcd a b=Nat.gcd n m) (λ_ b=>b) n m sB ⟨Ext.refl _,hn,hm,rfl⟩ ?_;rintro a b w2 ⟨i,U,J,F⟩;refine ρ ?_;refine ci (λh=>?_) (λh=>?_)
 .have j:b≠0:=by intro e;subst e;simp at h
  clear h;have u:Ext w2 w2.drew:=(Ext.refl w2).drew;have G:(b:Int)≠0:=om
  refine ρ ?_;refine dr [(0,0),(0,1),(0,2),(0,3),(0,4),(0,5)] kr ?_;refine ρd ?_;refine drem G ?_;refine ρd ?_;refine ρ ?_;refine Ja b (a % b) ?_ ⟨i.trans u,J,Nat.lt_of_lt_of_le (Nat.mod_lt _ om) om,by rw[<-F,Nat.gcd_comm a b,Nat.gcd_rec b a];exact Nat.gcd_comm _ _⟩ (Nat.mod_lt _ om);have Z:(a:Int).tmod b=((a % b:Nat):Int):=rfl;rw[Z];exact sO
 have j:b=0:=by
  rcases Nat.eq_zero_or_pos b with h1|h1
  .exact h1
  simp at h;omega
 subst j;rw[Nat.gcd_zero_right]at F;subst F;refine ρ ?_;refine cl (Xa _ U w2) ?_;rintro r w3 ⟨O,D⟩;refine ρ ?_;exact Jq ⟨O.ol i,i.trans D⟩
theorem Qnv{x:Value}(hx:NatV w x n)(hy:NatV w y m)(hn:n<18446744073709551616)(hm:m<18446744073709551616)(h0:0<m):
  Ret Tryz.prog 130 [x,y] w λr w'=>NatX (Ol w) w' r (Nat.gcd n m)/\Ext w w':=by
 have lm:=Qs hm;have hl:Jw m<=64:=Yg hm;refine Jz Tryz.func130 Tryz.ntmps130 rfl kr rfl ?_;refine ρ ?_;refine alc zFnN ?_;intro w1 b D O U;refine ρ ?_;refine stb1 U ?_ rfl;intro w2 F J j;have j:Ext w w2:=j w D O;refine ρ ?_;refine Jl (fun (_:Unit)=>[(0,x),(1,y),(5,.pointer (some ⟨b,0,none⟩))]) (λ_ w'=>w'=w2) (λ_=>0) () sB rfl ?_;rintro _ w3 rfl;refine ρ ?_;refine cl (Yd (hy.ext j) om) ?_;rintro _ w4 ⟨rfl,rfl⟩;refine ρ ?_;refine cf ?_ ?_
 .exact dF om
 refine ρ ?_;refine ld (F.at (i:=0) rfl) ?_;refine ρ ?_;refine clv (Qlr (p:=.pointer (some ⟨b,0,none⟩)) (hx.ext j) (hy.ext j) hn hm h0) ?_;rintro r Z ⟨G,u⟩;refine ρ ?_;exact Jq ⟨G.ol j,j.trans u⟩
theorem len0: (((Jj n).length:Int) == 0)=decide (n=0):=by
 by_cases h:n=0
 .subst h;rw[limbs_0];rfl
 have:=limbs_pos' h;rw[decide_eq_false h];exact beq_eq_false_iff_ne.2 om
theorem Qv{b c:Value}{x:Bool}(ha:a=.bool x)(hb:b.oneCell'=true)(hc:c.oneCell'=true): ∀ u∈[a,b,c],u.oneCell'=true:=λu i=>by
 simp only[List.mem_cons,List.not_mem_nil,or_false]at i;rcases i with rfl|rfl|rfl
 .rw[ha];rfl
 .exact hb
 exact hc
theorem RtX.out{w2 w4 w5:World}{x:Value}{b:Bool}(hx:NatX (Ol w2) w4 x q.num)(hy:NatX (Ol w2) w4 y q.den)(hg:w4.grownBy w5 (some b2))(hb:b2<w2.heap.size)(hxw:Ext w w2)(e:b=q.neg): RtX (Ol w) w5 (.agg #[.bool b,x,y]) q:=by
 have i:GrN (Ol w2) w4 w5:=GrN.by hg λk j=>by injection j with j;subst j;exact hb
 exact⟨x,y,by rw[e],(hx.gr i).ol hxw,(hy.gr i).ol hxw⟩
theorem Qlq(h:0<m): 0<Nat.gcd n m:=Nat.gcd_pos_of_pos_right _ h
theorem Zn{N:Nat->Prop}(hv:RtX N w v q)(hn:q.num<18446744073709551616)(hd:q.den<4294967296):
  Ret Tryz.prog 93 [v] w λr w'=>RtX (Ol w) w' r q.norm/\Ext w w':=by
 obtain⟨x,y,rfl,⟨hx,_⟩,⟨hy,_⟩⟩:=hv;have ln:=Qs hn;have am:=Qs (n:=q.den) om;refine Jz Tryz.func93 Tryz.ntmps93 rfl kr rfl ?_;refine ρ ?_;refine bx ?_;intro w1 b1 a4 aw a5;refine ρ ?_;refine alc Vq ?_;intro w2 b2 a9 av a2;have ai:=a2;have G:=a4.trans a9;have a3:Ext w2 w2.drew:=(Ext.refl w2).drew;have a8:=(a5.ext a9).ext a3;refine ρ ?_;refine drH (λ_=>false) ?_;refine Uj (fuel':=4) 14 [(0,0),(0,1),(0,3),(0,4)] #[true,true,false,true,true,false,false,false] kr kr rfl ?_;refine ρd ?_;refine dld (a8.at (i:=1) rfl) ?_;refine ρd ?_;refine dld (a8.at (i:=2) rfl) ?_;refine ρd ?_;refine Uq ?_;refine hmkS 14 2 _ #[true,true,true,true,true,true,false,false] [2,5] [8,11] [SF.nx (Ol w2) q.num,SF.nx (Ol w2) q.den] kr (by rfl) ?_ ?_
 .refine gsc (λvs v1 a6 hd=>?_) ?_
  .simp only[slM];refine cl (Jnp (hx.ext ((G.trans a3).trans a6)) om) ?_;rintro u v2 ⟨h1,h2,h3⟩;exact Qk (Xk h3 ((h2.o h1).ol (a3.trans a6)))
  refine gsc (λvs v1 a6 hd=>?_) gse
  simp only[slM];refine cl (Jnp (hy.ext ((G.trans a3).trans a6)) om) ?_;rintro u v2 ⟨h1,h2,h3⟩;exact Qk (Xk h3 ((h2.o h1).ol (a3.trans a6)))
 intro vs w3 aj hd;have hX:NatX (Ol w2) w3 (vs 0) q.num:=hd 0;have hY:NatX (Ol w2) w3 (vs 1) q.den:=hd 1;simp only[slM];generalize vs 0=x3 at *
 generalize vs 1=y3 at *
 refine Uj (fuel':=0) 14 [(0,6),(0,7)] #[true,true,true,true,true,true,true,true] kr kr rfl ?_;refine ρd ?_;refine Uq ?_;refine Xg kr ?_;have F:=a3.trans aj;have a1:=G.trans F;have a5:=(a5.ext a9).ext F;have a2:=a2.ext F;obtain⟨A,c,ex,au,ar,aq⟩:=id hX.1;obtain⟨B,d,ey,a7,ap,ao⟩:=id hY.1;subst ex;subst ey;refine ρ ?_;have J:=ai.lt;rw[len0];refine Go.Wk.ki 15 (λh=>?_) (λh=>?_)
 .have hz:=oT h;clear h;refine ρ ?_;refine ld (a5.at (i:=0) rfl) ?_;refine ρ ?_;have hq:q.norm=⟨false,q.num,1⟩:=by unfold PR.norm;rw[if_pos (.inl hz),hz];simp
  refine Go.Wk.ki 22 (λhs=>?_) (λhs=>?_)
  .refine ρ ?_;refine Go.Wk.kv 26 (u:=.bool false) (congrArg Value.bool ?_) ?_
   .exact dF (by rw[hz,limbs_0];simp)
   refine ρ ?_;refine cl (Xa 1 (by decide) _) ?_;rintro o w4 ⟨ho,j⟩;obtain⟨O,oc,rfl⟩:=ho.1.sl;refine ρ ?_;refine bld (Ym _ _ _ _ _ _ _ _) ?_;refine ρ ?_;refine stb (cs':=[.bool false,.slice A (Jj q.num).length c,.slice O (Jj 1).length oc]) (a2.ext j) ?_ (Qv rfl rfl ho.1.one);intro w5 Z U D;refine ρ ?_;refine Zv Z ⟨?_,D w (a1.trans j) (by have:=a4.size;omega)⟩;rw[hq];exact RtX.out (hX.ext j) (ho.ol F) U J G rfl
  refine ρ ?_;refine cl (Xa 1 (by decide) _) ?_;rintro o w4 ⟨ho,j⟩;obtain⟨O,oc,rfl⟩:=ho.1.sl;refine ρ ?_;refine bld (Ym _ _ _ _ _ _ _ _) ?_;refine ρ ?_;refine stb (cs':=[.bool false,.slice A (Jj q.num).length c,.slice O (Jj 1).length oc]) (a2.ext j) ?_ (Qv rfl rfl ho.1.one);intro w5 Z U D;refine ρ ?_;refine Zv Z ⟨?_,D w (a1.trans j) (by have:=a4.size;omega)⟩;rw[hq];exact RtX.out (hX.ext j) (ho.ol F) U J G rfl
 have hz:=oF h;clear h;refine ρ ?_;rw[len0];refine ci (λh=>?_) (λh=>?_)
 .have ae:=oT h;clear h;refine ρ ?_;refine ld (a5.at (i:=0) rfl) ?_;refine ρ ?_;have hq:q.norm=⟨q.neg,q.num,1⟩:=by unfold PR.norm;rw[if_pos (.inr ae)];simp[hz]
  refine Go.Wk.ki 22 (λhs=>?_) (λhs=>?_)
  .refine ρ ?_;refine Go.Wk.kv 26 (u:=.bool true) (congrArg Value.bool ?_) ?_
   .exact decide_eq_true (by have:=limbs_pos' hz;omega)
   refine ρ ?_;refine cl (Xa 1 (by decide) _) ?_;rintro o w4 ⟨ho,j⟩;obtain⟨O,oc,rfl⟩:=ho.1.sl;refine ρ ?_;refine bld (Ym _ _ _ _ _ _ _ _) ?_;refine ρ ?_;refine stb (cs':=[.bool true,.slice A (Jj q.num).length c,.slice O (Jj 1).length oc]) (a2.ext j) ?_ (Qv rfl rfl ho.1.one);intro w5 Z U D;refine ρ ?_;refine Zv Z ⟨?_,D w (a1.trans j) (by have:=a4.size;omega)⟩;rw[hq];exact RtX.out (hX.ext j) (ho.ol F) U J G hs.symm
  refine ρ ?_;refine cl (Xa 1 (by decide) _) ?_;rintro o w4 ⟨ho,j⟩;obtain⟨O,oc,rfl⟩:=ho.1.sl;refine ρ ?_;refine bld (Ym _ _ _ _ _ _ _ _) ?_;refine ρ ?_;refine stb (cs':=[.bool false,.slice A (Jj q.num).length c,.slice O (Jj 1).length oc]) (a2.ext j) ?_ (Qv rfl rfl ho.1.one);intro w5 Z U D;refine ρ ?_;refine Zv Z ⟨?_,D w (a1.trans j) (by have:=a4.size;omega)⟩;rw[hq];exact RtX.out (hX.ext j) (ho.ol F) U J G hs.symm
 have ae:=oF h;clear h;have hq:q.norm=⟨q.neg,q.num / Nat.gcd q.num q.den,q.den / Nat.gcd q.num q.den⟩:=by unfold PR.norm;rw[if_neg om]
 have ak:=Yg (x:=q.den) (k:=32) om;refine ρ ?_;refine cl (Yd hY.1 om) ?_;rintro _ w3 ⟨rfl,rfl⟩;refine ρ ?_;refine Uo (fun (x5 y5:Value)=>[(1,.pointer (some ⟨b1,0,none⟩)),(2,.pointer (some ⟨b2,0,none⟩)),(3,x5),(4,y5)])
  (λx5 y5 w'=>Ext w3 w'/\NatX (Ol w2) w' x5 (q.num / Nat.gcd q.num q.den)/\NatX (Ol w2) w' y5 (q.den / Nat.gcd q.num q.den)) ?_ ?_
 .refine ci (λh=>?_) (λh=>?_)
  .clear h;refine ρ ?_;refine cl (Qnv hX.1 hY.1 hn om om) ?_;rintro g w4 ⟨hg,j⟩;have ah:0<Nat.gcd q.num q.den:=Qlq om;have an:Nat.gcd q.num q.den<=q.den:=Nat.le_of_dvd om (Nat.gcd_dvd_right _ _);have aa:=Yg (x:=Nat.gcd q.num q.den) (k:=32) om;refine ρ ?_;refine cl (Yd hg.1 (by have:=Qs (n:=Nat.gcd q.num q.den) om;omega)) ?_;rintro _ w4 ⟨rfl,rfl⟩;refine ρ ?_;refine ci (λh=>?_) (λh=>?_)
   .clear h;refine ρ ?_;refine cl (Jjc (hX.ext j).1 hg.1 om ah om) ?_;rintro _ w5 ⟨⟨a,r,rfl,ha,_⟩,D⟩;refine ρ ?_;refine cl (Jjc ((hY.ext j).ext D).1 (hg.ext D).1 om ah om) ?_;rintro _ w6 ⟨⟨b,r2,rfl,hb,_⟩,af⟩;refine ρ ?_;exact Xs a b sB ⟨(j.trans D).trans af,(ha.ol (F.trans j)).ext af,hb.ol ((F.trans j).trans D)⟩
   have h1:=oF h;have aa:Nat.gcd q.num q.den=1:=by
    have:=Yu (x:=Nat.gcd q.num q.den);have h2:2^Jw (Nat.gcd q.num q.den)<=2^1:=Nat.pow_le_pow_right (by decide) om;omega
   refine ρ ?_;refine Xs _ _ sB ⟨j,?_,?_⟩
   .rw[aa,Nat.div_one];exact hX.ext j
   rw[aa,Nat.div_one];exact hY.ext j
  have h1:=oF h;have a7:q.den=1:=by
   have:=Yu (x:=q.den);have h2:2^Jw q.den<=2^1:=Nat.pow_le_pow_right (by decide) om;omega
  refine ρ ?_;refine Xs _ _ sB ⟨Ext.refl _,?_,?_⟩
  .rw[a7,Nat.gcd_one_right,Nat.div_one];exact hX
  rw[a7,Nat.gcd_one_right,Nat.div_one,<-a7];exact hY
 rintro x5 y5 w4 ⟨j,ad,ac⟩;obtain⟨X5,xc,rfl⟩:=ad.1.sl;obtain⟨Y5,yc,rfl⟩:=ac.1.sl;refine ρ ?_;refine ld ((a5.ext j).at (i:=0) rfl) ?_;refine ρ ?_;refine bld (Ym _ _ _ _ _ _ _ _) ?_;refine ρ ?_;refine stb (cs':=[.bool q.neg,.slice X5 _ xc,.slice Y5 _ yc]) (a2.ext j) ?_ (Qv rfl ad.1.one ac.1.one);intro w5 Z U D;refine ρ ?_;refine Zv Z ⟨?_,D w (a1.trans j) (by have:=a4.size;omega)⟩;rw[hq];exact RtX.out ad ac U J G rfl
end Go.Proofs.YtebiphhfkdbpfaaGreat
namespace Go.Wk
open Go.RowKit
theorem dnbR{P:Program}{n d ty:Nat}{al:AL}{w:World}{ops:Array Oper}{Q:Exit->Act->World->Prop}{drest:List (Nat×Oper)}{pos:String}{aft:Array Edge}{tt:TT}[h:Tab P tt]{t t2:TypeId}{k:TK}{x y:Operand}{p q:Bool}(kk:WD P n ops Q drest ((d,.bool (!(p == q)))::al) w)(ht:tk tt t=some k:=by rfl)(hk:k.desc=.bool:=by rfl)(hx:ev al x=some (.bool p):=by rfl)(hy:ev al y=some (.bool q):=by rfl)(hd:Nat.blt d n=true:=by rfl):
  WD P n ops Q ((0,⟨some d,.binOp .neq t x y t2,ty,pos,aft,none⟩)::drest) al w:=dy (λw' _ a i=>Qwz h.ok ht hk i hx hy (some d) w') hd kk
end Go.Wk
namespace Go.Proofs.YtebiphhfkdbpfaaGreat
open Go.RowKit Pl Go.Wk
attribute [local irreducible] WC WL QX WD WDB WP WN WG WH
variable {B b2 n:Nat}{N N':Nat->Prop}{p q:PR}{u v:Value}{w:World}
theorem bldR2(b:Bool)(A:Option Addr)(m c:Nat)(w:World): (Instr.build 84 #[(0,.bool b),(1,.slice A m c)]).run Tryz.prog w=.ok (.agg #[.bool b,.slice A m c,.slice none 0 0]) w:=kr
theorem bldR1(A:Option Addr)(m c:Nat)(w:World): (Instr.build 84 #[(1,.slice A m c)]).run Tryz.prog w=.ok (.agg #[.bool false,.slice A m c,.slice none 0 0]) w:=kr
theorem RtX.sl{N:Nat->Prop}{w:World}{v:Value}{q:PR}(h:RtX N w v q): ∃ A c B d,v=.agg #[.bool q.neg,.slice A (Jj q.num).length c,.slice B (Jj q.den).length d]/\NatX N w (.slice A (Jj q.num).length c) q.num/\NatX N w (.slice B (Jj q.den).length d) q.den:=by
 obtain⟨x,y,rfl,j,i⟩:=h;obtain⟨A,c,rfl⟩:=j.1.sl;obtain⟨B,d,rfl⟩:=i.1.sl;exact⟨A,c,B,d,rfl,j,i⟩
theorem RtX.box{w2 w4 w5:World}(h:RtX (Ol w2) w4 v q)(hg:w4.grownBy w5 (some b2))(hb:b2<w2.heap.size)(hxw:Ext w w2): RtX (Ol w) w5 v q :=
 (h.gr (GrN.by hg λk i=>by injection i with i;subst i;exact hb)).ol hxw
theorem Qgc(z:Int)(h1:-9223372036854775808<z)(h2:z<9223372036854775808)(w:World): Ret Tryz.prog 122 [.int .i64 z] w λr w'=>NatX (Ol w) w' r z.natAbs/\Ext w w':=by
 refine Jz Tryz.func122 Tryz.ntmps122 rfl kr rfl ?_;refine ρ ?_;refine ci (λh=>?_) (λh=>?_)
 .have y:=oT h;refine ρ ?_;refine Go.Wk.kv 7 (u:=.int .u64 (z.natAbs:Int)) (congrArg (Value.int .u64) ?_) ?_
  .simp only[IntKind.wrap_u64];omega
  refine cl (Xa z.natAbs om w) ?_;rintro r w1 ⟨j,i⟩;refine ρ ?_;exact Jq ⟨j,i⟩
 have y:=oF h;refine ρ ?_;refine Go.Wk.kv 10 (u:=.int .u64 (z.natAbs:Int)) (congrArg (Value.int .u64) ?_) ?_
 .simp only[IntKind.wrap_u64];omega
 refine cl (Xa z.natAbs om w) ?_;rintro r w1 ⟨j,i⟩;refine ρ ?_;exact Jq ⟨j,i⟩
theorem Gu(z:Int)(h1:-9223372036854775808<z)(h2:z<9223372036854775808)(w:World): Ret Tryz.prog 80 [.int .i64 z] w λr w'=>RtX (Ol w) w' r (PR.int z)/\Ext w w':=by
 have hq:PR.norm ⟨decide (z<0),z.natAbs,0⟩=PR.int z:=by
  unfold PR.norm PR.int;rw[if_pos (.inr rfl)];by_cases h:z<0
  .have:z.natAbs≠0:=om
   simp[h,this]
  simp[h]
 refine Jz Tryz.func80 Tryz.ntmps80 rfl kr rfl ?_;refine ρ ?_;refine alc Vq ?_;intro w1 b1 y O D;refine ρ ?_;refine cl (Qgc z h1 h2 w1) ?_;rintro r w2 ⟨Z,i⟩;obtain⟨A,c,rfl⟩:=Z.1.sl;refine ρ ?_;refine bld (bldR2 _ _ _ _ _) ?_;refine ρ ?_;refine cl (Zn (N:=Ol w1) (q:=⟨decide (z<0),z.natAbs,0⟩) ⟨_,_,rfl,Z,NatX.nil _⟩ (by show z.natAbs<_;omega) (show 0<4294967296 by decide)) ?_;rintro u w3 ⟨G,j⟩;rw[hq]at G;obtain⟨A',c',B',d',rfl,a2,a1⟩:=G.sl;refine ρ ?_;refine stb (cs':=[.bool (PR.int z).neg,.slice A' _ c',.slice B' _ d']) ((D.ext i).ext j) ?_ (Qv rfl rfl rfl);intro w4 U J F;refine ρ ?_;exact Zv U ⟨(G.ol i).box J D.lt y,F w ((y.trans i).trans j) O⟩
theorem Qyt(hv:NatV w v n)(hn:n<18446744073709551616): Ret Tryz.prog 100 [v] w λr w'=>RtX (Ol w) w' r (PR.norm ⟨false,n,0⟩)/\Ext w w':=by
 obtain⟨A,c,rfl⟩:=hv.sl;refine Jz Tryz.func100 Tryz.ntmps100 rfl kr rfl ?_;refine ρ ?_;refine alc Vq ?_;intro w1 b1 i G y;refine ρ ?_;refine bld (bldR1 _ _ _ _) ?_;refine ρ ?_;refine cl (Zn (N:=λ_=>False) (q:=⟨false,n,0⟩) ⟨_,_,rfl,⟨hv.ext i,λ_ _ _ _ _ h=>h⟩,NatX.nil _⟩ hn (show 0<4294967296 by decide)) ?_;rintro u w3 ⟨O,j⟩;obtain⟨A',c',B',d',rfl,Z,U⟩:=O.sl;refine ρ ?_;refine stb (cs':=[.bool (PR.norm ⟨false,n,0⟩).neg,.slice A' _ c',.slice B' _ d']) (y.ext j) ?_ (Qv rfl rfl rfl);intro w4 J F D;refine ρ ?_;exact Zv J ⟨O.box F y.lt i,D w (i.trans j) G⟩
theorem Jlw(hv:RtX N w v q)(hn:q.num<18446744073709551616)(hd:q.den<4294967296): Ret Tryz.prog 127 [v] w λr w'=>RtX (Ol w) w' r q.opp/\Ext w w':=by
 obtain⟨A,c,B,d,rfl,hA,hB⟩:=hv.sl;refine Jz Tryz.func127 Tryz.ntmps127 rfl kr rfl ?_;refine ρ ?_;refine bx ?_;intro w1 b1 G a4 y;refine ρ ?_;refine alc Vq ?_;intro w2 b2 F Z J;have y:=y.ext F;refine ρ ?_;refine ld (y.at (i:=0) rfl) ?_;refine ρ ?_;refine ld (y.at (i:=1) rfl) ?_;refine ρ ?_;refine ld (y.at (i:=2) rfl) ?_;refine ρ ?_;refine bld (Ym _ _ _ _ _ _ _ _) ?_;refine ρ ?_;have j:=G.trans F;refine cl (Zn (N:=N) (q:=⟨!q.neg,q.num,q.den⟩) ⟨_,_,rfl,hA.ext j,hB.ext j⟩ hn hd) ?_;rintro u w3 ⟨hu,D⟩;obtain⟨A',c',B',d',rfl,a3,a2⟩:=hu.sl;refine ρ ?_;refine stb (cs':=[.bool (PR.norm ⟨!q.neg,q.num,q.den⟩).neg,.slice A' _ c',.slice B' _ d']) (J.ext D) ?_ (Qv rfl rfl rfl);intro w4 a1 U O;refine ρ ?_;exact Zv a1 ⟨hu.box U J.lt j,O w (j.trans D) (nL G.size Z)⟩
theorem Uf(hv:RtX N w v q)(hn:(Jj q.num).length<=1000): Ret Tryz.prog 90 [v] w λr w'=>r=.int .i64 q.sign/\Ext w w':=by
 obtain⟨A,c,B,d,rfl,F,G⟩:=hv.sl;refine Jz Tryz.func90 Tryz.ntmps90 rfl kr rfl ?_;refine ρ ?_;refine bx ?_;intro w1 b1 j D u;refine ρ ?_;refine ld (u.at (i:=1) rfl) ?_;refine ρ ?_;refine cl (Yd (F.1.ext j) hn) ?_;rintro _ w1 ⟨rfl,rfl⟩;refine ρ ?_;refine ci (λh=>?_) (λh=>?_)
 .have h0:q.num=0:=by
   rcases Nat.eq_zero_or_pos q.num with h1|h1
   .exact h1
   have:=(Gy (x:=q.num) om).1;have:=eq_of_beq h;omega
  refine ρ ?_;exact Jq ⟨by unfold PR.sign;rw[if_pos h0],j⟩
 have h0:q.num≠0:=λe=>by rw[e]at h;simp[Jw]at h
 refine ρ ?_;refine ld (u.at (i:=0) rfl) ?_;refine ρ ?_;refine ci (λy=>?_) (λy=>?_)
 .refine ρ ?_;exact Jq ⟨by unfold PR.sign;rw[if_neg h0,if_pos y],j⟩
 refine ρ ?_;exact Jq ⟨by unfold PR.sign;rw[if_neg h0,if_neg (by rw[y];decide)],j⟩
theorem Jlx(hv:RtX N w v q)(hN:∀ k,N k->k<w.heap.size)(hn:(Jj q.den).length<=1000): Ret Tryz.prog 157 [v] w λr w'=>NatX N w' r q.dvs/\Ext w w':=by
 obtain⟨A,c,B,d,rfl,O,D⟩:=hv.sl;refine Jz Tryz.func157 Tryz.ntmps157 rfl kr rfl ?_;refine ρ ?_;refine bx ?_;intro w1 b1 j J u;refine ρ ?_;refine ld (u.at (i:=2) rfl) ?_;refine ρ ?_;refine cl (Yd (D.1.ext j) hn) ?_;rintro _ w1 ⟨rfl,rfl⟩;refine ρ ?_;refine ci (λh=>?_) (λh=>?_)
 .have h0:q.den=0:=by
   rcases Nat.eq_zero_or_pos q.den with h1|h1
   .exact h1
   have:=(Gy (x:=q.den) om).1;have:=eq_of_beq h;omega
  refine ρ ?_;refine cl (Xa 1 (by decide) _) ?_;rintro o w2 ⟨F,y⟩;refine ρ ?_;refine Jq ⟨?_,j.trans y⟩;unfold PR.dvs;rw[if_pos h0];exact(F.ol j).old λk G=>.inl (hN k G)
 have h0:q.den≠0:=λe=>by rw[e]at h;simp[Jw]at h
 refine ρ ?_;refine ld (u.at (i:=2) rfl) ?_;refine ρ ?_;refine Jq ⟨?_,j⟩;unfold PR.dvs;rw[if_neg h0];exact D.ext j
theorem Jkr(h:q.num<B)(h2:1<B): q.norm.num<B:=by
 unfold PR.norm;split
 .exact h
 exact nN (Nat.div_le_self _ _) h
theorem Jkq(h:q.den<B)(h2:1<B): q.norm.den<B:=by
 unfold PR.norm;split
 .exact h2
 exact nN (Nat.div_le_self _ _) h
def SF.rx(N:Nat->Prop)(q:PR): SF:=⟨λv w=>RtX N w v q,λh hx=>h.ext hx⟩
theorem Jbf(hv:RtX N w v p)(hu:RtX N' w u q)(h1:p.num<4294967296)(h2:p.den<4294967296)(h3:q.num<4294967296)(h4:q.den<4294967296)(h5:p.norm.den*q.norm.den<4294967296):
  Ret Tryz.prog 99 [v,u] w λr w'=>RtX (Ol w) w' r (PR.mul p q)/\Ext w w':=by
 obtain⟨A,c,B,d,rfl,hA,hB⟩:=hv.sl;obtain⟨C,e,D,f,rfl,hC,hD⟩:=hu.sl;refine Jz Tryz.func99 Tryz.ntmps99 rfl kr rfl ?_;refine ρ ?_;refine bx ?_;intro w1 b1 aj b8 a6;refine ρ ?_;refine bx ?_;intro w2 b2 a9 b7 a4;refine ρ ?_;refine alc Vq ?_;intro w3 b3 ai b6 av;have a5:=a6;have aw:=a4;have a6:=(a6.ext a9).ext ai;have a4:=a4.ext ai;have aq:=(aj.trans a9).trans ai;refine ρ ?_;have a7:Ext w3 w3.drew:=(Ext.refl w3).drew;have ah:=a6.ext a7;have af:=a4.ext a7;have J:=aq.trans a7;refine drC 14 [] [(0,0),(0,2),(1,1),(1,3),(2,4),(2,5)] kr ?_;refine ρp ?_;refine ρd ?_;refine Qq (cs:=[.bool p.neg,.slice A _ c,.slice B _ d]) (λj u hu=>ah.at hu) ?_;refine ρd ?_;refine Qq (cs:=[.bool q.neg,.slice C _ e,.slice D _ f]) (λj u hu=>af.at hu) ?_;refine ρd ?_;refine dcl (Zn (N:=N) (q:=p) ⟨_,_,rfl,hA.ext J,hB.ext J⟩ om h2) ?_;rintro x4 w4 ⟨ba,G⟩;refine⟨G,?_⟩;refine ρd ?_
 refine dcl (Zn (N:=N') (q:=q) ⟨_,_,rfl,(hC.ext J).ext G,(hD.ext J).ext G⟩ om h4) ?_;rintro y4 w5 ⟨an,a2⟩;refine⟨a2,?_⟩;have b9:=ba.ext a2;have an:=an.ol G;obtain⟨A5,c5,B5,d5,rfl,bl,bi⟩:=b9.sl;obtain⟨C5,e5,D5,f5,rfl,bg,be⟩:=an.sl;refine ρd ?_;refine Jg ?_;refine stb (cs':=[.bool p.norm.neg,.slice A5 _ c5,.slice B5 _ d5]) ((ah.ext G).ext a2) ?_ (Qv rfl rfl rfl);intro w6 ay am b5;refine ρ ?_;refine Qm ?_;refine Jg ?_;have ax:Blk w6 b2 _ _:=((af.ext G).ext a2).grown am (λe=>by injection e with e;have:=a5.lt;omega);refine stb (cs':=[.bool q.norm.neg,.slice C5 _ e5,.slice D5 _ f5]) ax ?_ (Qv rfl rfl rfl);intro w7 O ak b4;refine ρ ?_;have U:Blk w7 b1 _ _:=ay.grown ak (λe=>by injection e with e;have:=a5.lt;omega);have l1:=a6.lt;have l2:=a4.lt;have l3:=av.lt;have Z:GrN (Ol w3.drew) w5 w7:=(GrN.by am λk ek=>by injection ek with ek;subst ek;exact l1).trans (GrN.by ak λk ek=>by injection ek with ek;subst ek;exact l2)
 have bj:=bl.gr Z;have bh:=bi.gr Z;have bf:=bg.gr Z;have bd:=be.gr Z;have ad:Ext w w7:=b4 w (b5 w ((J.trans G).trans a2) b8) (nL aj.size b7);have ae:Blk w7 b3 84 [.bool false,.slice none 0 0,.slice none 0 0]:=((((av.ext a7).ext G).ext a2).grown am (λe=>by injection e with e;have:=a5.lt;have:=a9.size;omega)).grown ak (λe=>by injection e with e;have:=aw.lt;omega);have y:Ext w7 w7.drew:=(Ext.refl w7).drew;have U:=U.ext y;have O:=O.ext y;refine dr [(0,0),(0,1),(0,2),(0,3),(0,4),(0,5),(0,6),(0,7),(0,8),(0,10),(0,11),(0,12),(0,13),(1,9),(1,14),(0,15),(1,16),(2,17)] kr ?_;refine ρd ?_;refine dld (U.at (i:=0) rfl) ?_;refine ρd ?_;refine dld (O.at (i:=0) rfl) ?_;refine ρd ?_;refine dnbR ?_;refine ρd ?_;refine dld (U.at (i:=1) rfl) ?_;refine ρd ?_;refine dld (O.at (i:=1) rfl) ?_;refine ρd ?_;refine dld (U.at (i:=2) rfl) ?_;refine ρd ?_;refine dld (O.at (i:=2) rfl) ?_;refine ρd ?_
 have n1:=Jkr h1 (by decide);have n2:=Jkq h2 (by decide);have n3:=Jkr h3 (by decide);have n4:=Jkq h4 (by decide);have hm:p.norm.num*q.norm.num<18446744073709551616:=by have:=Jbs n1 n3;omega
 refine dcl (Vg (bj.1.ext y) (bf.1.ext y) (by have:=Qs (n:=p.norm.num) om;omega) (by have:=Qs (n:=q.norm.num) om;omega)) ?_;rintro x8 w8 ⟨ao,bc,a1⟩;refine⟨a1,?_⟩;have ao:=bc.o ao;refine ρd ?_;refine dcl (Vg ((bh.1.ext y).ext a1) ((bd.1.ext y).ext a1) (by have:=Qs (n:=p.norm.den) om;omega) (by have:=Qs (n:=q.norm.den) om;omega)) ?_;rintro y9 w9 ⟨aa,bb,a8⟩;refine⟨a8,?_⟩;have aa:=(bb.o aa).ol a1;have au:=ao.ext a8;obtain⟨E,g,rfl⟩:=au.1.sl;obtain⟨F,g',rfl⟩:=aa.1.sl;refine ρd ?_;refine dbld (Ym _ _ _ _ _ _ _) ?_;refine ρd ?_;refine dcl (Zn (q:=⟨!(p.norm.neg == q.norm.neg),p.norm.num*q.norm.num,p.norm.den*q.norm.den⟩) ⟨_,_,rfl,au,aa⟩ hm h5) ?_;rintro r bn ⟨hR,ac⟩;refine⟨ac,?_⟩;have e:PR.norm ⟨!(p.norm.neg == q.norm.neg),p.norm.num*q.norm.num,p.norm.den*q.norm.den⟩=PR.mul p q:=rfl;rw[e]at hR;obtain⟨A',c',B',d',rfl,_,_⟩:=hR.sl
 have a3:=((y.trans a1).trans a8).trans ac;refine ρd ?_;refine Jg ?_;refine stb (cs':=[.bool (PR.mul p q).neg,.slice A' _ c',.slice B' _ d']) (ae.ext a3) ?_ (Qv rfl rfl rfl);intro bm az ar ap;refine ρ ?_;exact Zv az ⟨(hR.ol ((y.trans a1).trans a8)).box ar ae.lt ad,ap w (ad.trans a3) (nL (aj.trans a9).size b6)⟩
theorem Qyw(hv:RtX N w v p)(hu:RtX N' w u q)(h1:p.num<4294967296)(h2:p.den<4294967296)(h3:q.num<4294967296)(h4:q.den<4294967296)(h5:p.norm.den*q.norm.den<4294967296)(h6:p.norm.num*q.norm.den+q.norm.num*p.norm.den<18446744073709551616):
  Ret Tryz.prog 179 [v,u] w λr w'=>RtX (Ol w) w' r (PR.add p q)/\Ext w w':=by
 obtain⟨A,c,B,d,rfl,hA,hB⟩:=hv.sl;obtain⟨C,e,D,f,rfl,hC,hD⟩:=hu.sl;refine Jz Tryz.func179 Tryz.ntmps179 rfl kr rfl ?_;refine ρ ?_;refine bx ?_;intro w1 b1 b8 bz a1;refine ρ ?_;refine bx ?_;intro w2 b2 au bw a6;refine ρ ?_;refine alc Vq ?_;intro w3 b3 b7 bv af;have ao:=a1;have bm:=a6;have a1:=(a1.ext au).ext b7;have a6:=a6.ext b7;have bg:=(b8.trans au).trans b7;refine ρ ?_;have ar:Ext w3 w3.drew:=(Ext.refl w3).drew;have b4:=a1.ext ar;have ay:=a6.ext ar;have a5:=bg.trans ar;refine drC 14 [] [(0,0),(0,2),(1,1),(1,3),(2,4),(2,5)] kr ?_;refine ρp ?_;refine ρd ?_;refine Qq (cs:=[.bool p.neg,.slice A _ c,.slice B _ d]) (λj u hu=>b4.at hu) ?_;refine ρd ?_;refine Qq (cs:=[.bool q.neg,.slice C _ e,.slice D _ f]) (λj u hu=>ay.at hu) ?_;refine ρd ?_;refine dcl (Zn (N:=N) (q:=p) ⟨_,_,rfl,hA.ext a5,hB.ext a5⟩ om h2) ?_;rintro x4 w4 ⟨c2,a3⟩;refine⟨a3,?_⟩
 refine ρd ?_;refine dcl (Zn (N:=N') (q:=q) ⟨_,_,rfl,(hC.ext a5).ext a3,(hD.ext a5).ext a3⟩ om h4) ?_;rintro y4 w5 ⟨bc,ae⟩;refine⟨ae,?_⟩;have c1:=c2.ext ae;have bc:=bc.ol a3;obtain⟨A5,c5,B5,d5,rfl,cc,ca⟩:=c1.sl;obtain⟨C5,e5,D5,f5,rfl,c9,c7⟩:=bc.sl;refine ρd ?_;refine Jg ?_;refine stb (cs':=[.bool p.norm.neg,.slice A5 _ c5,.slice B5 _ d5]) ((b4.ext a3).ext ae) ?_ (Qv rfl rfl rfl);intro w6 bo ba bu;refine ρ ?_;refine Qm ?_;refine Jg ?_;have bn:Blk w6 b2 _ _:=((ay.ext a3).ext ae).grown ba (λe=>by injection e with e;have:=ao.lt;omega);refine stb (cs':=[.bool q.norm.neg,.slice C5 _ e5,.slice D5 _ f5]) bn ?_ (Qv rfl rfl rfl);intro w7 an b9 bt;refine ρ ?_;have ap:Blk w7 b1 _ _:=bo.grown b9 (λe=>by injection e with e;have:=ao.lt;omega);have l1:=a1.lt;have l2:=a6.lt;have l3:=af.lt;have ad:GrN (Ol w3.drew) w5 w7:=(GrN.by ba λk ek=>by injection ek with ek;subst ek;exact l1).trans (GrN.by b9 λk ek=>by injection ek with ek;subst ek;exact l2)
 have cb:=cc.gr ad;have bl:=ca.gr ad;have c8:=c9.gr ad;have bj:=c7.gr ad;have ac:Ext w w7:=bt w (bu w ((a5.trans a3).trans ae) bz) (nL b8.size bw);have aw:Blk w7 b3 84 [.bool false,.slice none 0 0,.slice none 0 0]:=((((af.ext ar).ext a3).ext ae).grown ba (λe=>by injection e with e;have:=ao.lt;have:=au.size;omega)).grown b9 (λe=>by injection e with e;have:=bm.lt;omega);have O:Ext w7 w7.drew:=(Ext.refl w7).drew;have az:=ap.ext O;have ax:=an.ext O;refine dr [(0,0),(0,1),(0,2),(0,3),(0,5),(0,6),(0,7),(0,8),(1,4),(1,9),(0,10),(0,11)] kr ?_;refine ρd ?_;refine dld (az.at (i:=1) rfl) ?_;refine ρd ?_;refine dld (ax.at (i:=2) rfl) ?_;refine ρd ?_;refine dld (ax.at (i:=1) rfl) ?_;refine ρd ?_;refine dld (az.at (i:=2) rfl) ?_;refine ρd ?_;have n1:=Jkr h1 (by decide);have n2:=Jkq h2 (by decide);have n3:=Jkr h3 (by decide);have n4:=Jkq h4 (by decide);have s1:=Qs (n:=p.norm.num) om
 have s2:=Qs (n:=p.norm.den) om;have s3:=Qs (n:=q.norm.num) om;have s4:=Qs (n:=q.norm.den) om;refine dcl (Vg (cb.1.ext O) (bj.1.ext O) om om) ?_;rintro x8 w8 ⟨bd,c6,a7⟩;refine⟨a7,?_⟩;have bd:=c6.o bd;refine ρd ?_;refine dcl (Vg ((c8.1.ext O).ext a7) ((bl.1.ext O).ext a7) om om) ?_;rintro y9 w9 ⟨bb,c4,ai⟩;refine⟨ai,?_⟩;have bb:=(c4.o bb).ol a7;have c0:=bd.ext ai;have a2:=(O.trans a7).trans ai;refine ρd ?_;refine ρ ?_;refine ld ((ap.ext a2).at (i:=2) rfl) ?_;refine ρ ?_;refine ld ((an.ext a2).at (i:=2) rfl) ?_;refine ρ ?_;refine cl (Vg (bl.1.ext a2) (bj.1.ext a2) om om) ?_;rintro z b5 ⟨hZ,c3,aa⟩;have hZ:=(c3.o hZ).ol (a7.trans ai);have hX:=c0.ext aa;have hY:=bb.ext aa;have y:=a2.trans aa;have a1:=ap.ext y;have a6:=an.ext y;have af:=aw.ext y;have b6:=aw.lt;have aj:=nL (b8.trans au).size bv
 have a8:=ac.trans y;refine ρ ?_;refine ld (a1.at (i:=0) rfl) ?_;refine ρ ?_;refine ld (a6.at (i:=0) rfl) ?_;refine ρ ?_;refine eqb ?_;refine ρ ?_;obtain⟨Z,zc,rfl⟩:=hZ.1.sl;have ce:=Qs (n:=p.norm.num*q.norm.den) om;have cd:=Qs (n:=q.norm.num*p.norm.den) om;refine ci (λh=>?_) (λh=>?_)
 .have he:p.norm.neg=q.norm.neg:=eq_of_beq h;have eq:PR.norm ⟨p.norm.neg,p.norm.num*q.norm.den+q.norm.num*p.norm.den,p.norm.den*q.norm.den⟩=PR.add p q:=by unfold PR.add PR.addN;rw[if_pos he]
  have ah:Ext b5 b5.drew:=(Ext.refl b5).drew;refine ρ ?_;refine dr [(0,0),(0,1),(0,2),(0,3),(0,5),(1,4),(0,6),(1,7),(2,8)] kr ?_;refine ρd ?_;refine dld ((a1.ext ah).at (i:=0) rfl) ?_;refine ρd ?_;refine dcl (Jnq (hX.1.ext ah) (hY.1.ext ah) om om) ?_;rintro t bs ⟨hT,be,G⟩;refine⟨G,?_⟩;have U:=ah.trans G;have hT:=(be.o hT).ol ((((O.trans a7).trans ai).trans aa).trans ah);obtain⟨T,tc,rfl⟩:=hT.1.sl;refine ρd ?_;refine dbld (Ym _ _ _ _ _ _ _) ?_;refine ρd ?_;refine dcl (Zn (q:=⟨p.norm.neg,p.norm.num*q.norm.den+q.norm.num*p.norm.den,p.norm.den*q.norm.den⟩) ⟨_,_,rfl,hT,(hZ.ol O).ext U⟩ h6 h5) ?_;rintro r br ⟨hR,a9⟩;refine⟨a9,?_⟩;rw[eq]at hR;obtain⟨A',c',B',d',rfl,_,_⟩:=hR.sl;have F:=U.trans a9;refine ρd ?_;refine Jg ?_;refine stb (cs':=[.bool (PR.add p q).neg,.slice A' _ c',.slice B' _ d']) (af.ext F) ?_ (Qv rfl rfl rfl);intro bf bp bh a4;refine ρ ?_
  exact Zv bp ⟨(hR.ol (y.trans U)).box bh b6 ac,a4 w (a8.trans F) aj⟩
 have he:p.norm.neg≠q.norm.neg:=λe=>by rw[e]at h;simp at h
 refine ρ ?_;refine cl (Jnm hX.1 hY.1 om) ?_;rintro _ bs ⟨⟨t,rfl,hT,be⟩,G⟩;have hT:=(be.o hT).ol y;refine ρ ?_;by_cases hlt:p.norm.num*q.norm.den<q.norm.num*p.norm.den
 .rw[if_pos hlt];have eq:PR.norm ⟨q.norm.neg,q.norm.num*p.norm.den-p.norm.num*q.norm.den,p.norm.den*q.norm.den⟩=PR.add p q:=by unfold PR.add PR.addN;rw[if_neg he,if_neg om]
  refine ρ ?_;refine cl (Jnm (hY.1.ext G) (hX.1.ext G) om) ?_;rintro _ br ⟨⟨t2,rfl,av,bi⟩,a9⟩;have av:=(bi.o av).ol (y.trans G);obtain⟨T,tc,rfl⟩:=av.1.sl;have F:=G.trans a9;refine ρ ?_;refine ld ((a6.ext F).at (i:=0) rfl) ?_;refine ρ ?_;refine bld (Ym _ _ _ _ _ _ _ _) ?_;refine ρ ?_;refine cl (Zn (q:=⟨q.norm.neg,q.norm.num*p.norm.den-p.norm.num*q.norm.den,p.norm.den*q.norm.den⟩) ⟨_,_,rfl,av,(hZ.ol O).ext F⟩ (by show q.norm.num*p.norm.den-_<_;omega) h5) ?_;rintro r bf ⟨hR,a4⟩;rw[eq]at hR;obtain⟨A',c',B',d',rfl,_,_⟩:=hR.sl;have J:=F.trans a4;refine ρ ?_;refine stb (cs':=[.bool (PR.add p q).neg,.slice A' _ c',.slice B' _ d']) (af.ext J) ?_ (Qv rfl rfl rfl);intro bq aq am ak;refine ρ ?_;exact Zv aq ⟨(hR.ol (y.trans F)).box am b6 ac,ak w (a8.trans J) aj⟩
 rw[if_neg hlt];have eq:PR.norm ⟨p.norm.neg,p.norm.num*q.norm.den-q.norm.num*p.norm.den,p.norm.den*q.norm.den⟩=PR.add p q:=by unfold PR.add PR.addN;rw[if_neg he,if_pos om]
 obtain⟨T,tc,rfl⟩:=hT.1.sl;refine ρ ?_;refine ld ((a1.ext G).at (i:=0) rfl) ?_;refine ρ ?_;refine bld (Ym _ _ _ _ _ _ _ _) ?_;refine ρ ?_;refine cl (Zn (q:=⟨p.norm.neg,p.norm.num*q.norm.den-q.norm.num*p.norm.den,p.norm.den*q.norm.den⟩) ⟨_,_,rfl,hT,(hZ.ol O).ext G⟩ (by show p.norm.num*q.norm.den-_<_;omega) h5) ?_;rintro r bf ⟨hR,a4⟩;rw[eq]at hR;obtain⟨A',c',B',d',rfl,_,_⟩:=hR.sl;have J:=G.trans a4;refine ρ ?_;refine stb (cs':=[.bool (PR.add p q).neg,.slice A' _ c',.slice B' _ d']) (af.ext J) ?_ (Qv rfl rfl rfl);intro bq aq am ak;refine ρ ?_;exact Zv aq ⟨(hR.ol (y.trans G)).box am b6 ac,ak w (a8.trans J) aj⟩
open Go.RowKit Pl Go.Wk
variable {N N':Nat->Prop}{p q:PR}{u v:Value}{w:World}
theorem Gv(q:PR): q.norm.num<=q.num:=by
 unfold PR.norm;split
 .exact nR _
 exact Nat.div_le_self _ _
theorem Vo(h:q.den≠0): q.norm.den<=q.den:=by
 unfold PR.norm;split
 .show 1<=q.den;omega
 exact Nat.div_le_self _ _
structure Sm(p q:PR): Prop where
 p0:p.den≠0
 q0:q.den≠0
 pn:p.num<4294967296
 qn:q.num<4294967296
 d:p.den*q.den<4294967296
 s:p.num*q.den+q.num*p.den<18446744073709551616
theorem Sm.pd(h:Sm p q): p.den<4294967296:=nN (Nat.le_mul_of_pos_right _ (Nat.pos_of_ne_zero h.q0)) h.d
theorem Sm.qd(h:Sm p q): q.den<4294967296:=nN (Nat.le_mul_of_pos_left _ (Nat.pos_of_ne_zero h.p0)) h.d
theorem Sm.le{p' q':PR}(h:Sm p q)(h1:p'.num<=p.num)(h2:p'.den<=p.den)(h3:q'.num<=q.num)(h4:q'.den<=q.den)(h5:p'.den≠0)(h6:q'.den≠0): Sm p' q':=by
 have a:=h.pn;have b:=h.qn;refine⟨h5,h6,om,om,Nat.lt_of_le_of_lt (Nat.mul_le_mul h2 h4) h.d,Nat.lt_of_le_of_lt (Nat.add_le_add (Nat.mul_le_mul h1 h4) (Nat.mul_le_mul h3 h2)) h.s⟩
theorem Sm.nrm(h:Sm p q): Sm p.norm q.norm:=h.le (Gv _) (Vo h.p0) (Gv _) (Vo h.q0) (PR.norm_val h.p0).2 (PR.norm_val h.q0).2
theorem Qys(hv:RtX N w v p)(hu:RtX N' w u q)(h:Sm p q):
  Ret Tryz.prog 159 [v,u] w λr w'=>RtX (Ol w) w' r (PR.sub p q)/\Ext w w':=by
 have ho:Sm p q.opp:=h.le (nR _) (nR _) (Gv ⟨!q.neg,q.num,q.den⟩) (Vo (q:=⟨!q.neg,q.num,q.den⟩) h.q0) h.p0 (PR.opp_val h.q0).2;have hn:=ho.nrm;have a9:=h.pd;have a7:=h.qd;have a8:=h.pn;have ah:=h.qn;have ac:=ho.qd;have aa:=ho.qn;obtain⟨A,c,B,d,rfl,hA,hB⟩:=hv.sl;obtain⟨C,e,D,f,rfl,hC,hD⟩:=hu.sl;refine Jz Tryz.func159 Tryz.ntmps159 rfl kr rfl ?_;refine ρ ?_;refine bx ?_;intro w1 b1 a4 aj a2;refine ρ ?_;refine bx ?_;intro w2 b2 Z ai a1;refine ρ ?_;refine alc Vq ?_;intro w3 b3 U ae a5;have J:=(a4.trans Z).trans U;have F:Ext w3 w3.drew:=(Ext.refl w3).drew;have a2:=((a2.ext Z).ext U).ext F;have a1:=(a1.ext U).ext F;have i:=J.trans F;refine ρ ?_;refine dr [(0,0),(0,1),(1,2),(1,3),(2,4)] kr ?_;refine ρd ?_;refine Qq (cs:=[.bool p.neg,.slice A _ c,.slice B _ d]) (λj u hu=>a2.at hu) ?_;refine ρd ?_;refine Qq (cs:=[.bool q.neg,.slice C _ e,.slice D _ f]) (λj u hu=>a1.at hu) ?_
 refine ρd ?_;refine dcl (Jlw (N:=N') (q:=q) ⟨_,_,rfl,hC.ext i,hD.ext i⟩ om a7) ?_;rintro y w4 ⟨hY,G⟩;refine⟨G,?_⟩;refine ρd ?_;refine dcl (Qyw (N:=N) (p:=p) (q:=q.opp) ⟨_,_,rfl,(hA.ext i).ext G,(hB.ext i).ext G⟩ hY a8 a9 aa ac hn.d hn.s) ?_;rintro r w5 ⟨hR,a3⟩;refine⟨a3,?_⟩;obtain⟨A',c',B',d',rfl,_,_⟩:=hR.sl;have O:=(F.trans G).trans a3;refine ρd ?_;refine Jg ?_;refine stb (cs':=[.bool (PR.add p q.opp).neg,.slice A' _ c',.slice B' _ d']) (a5.ext O) ?_ (Qv rfl rfl rfl);intro w6 af ad a6;refine ρ ?_;exact Zv af ⟨(hR.ol (F.trans G)).box ad a5.lt J,a6 w (J.trans O) (nL (a4.trans Z).size ae)⟩
theorem Jlz(hv:RtX N w v p)(hu:RtX N' w u q)(h0:q.norm.num≠0)(hp0:p.den≠0)(hq0:q.den≠0)(h1:p.num<4294967296)(h2:p.den<4294967296)(h3:q.num<4294967296)(h4:q.den<4294967296)(h5:p.den*q.num<4294967296):
  Ret Tryz.prog 158 [v,u] w λr w'=>(∃ x,r=.tuple #[x,.int .i64 0]/\RtX (Ol w) w' x (PR.div p q))/\Ext w w':=by
 have a1:=Gv q;have a2:=Vo hq0;have a3:=Vo hp0;have a4:=Vo (q:=⟨q.norm.neg,q.norm.den,q.norm.num⟩) h0;obtain⟨A,c,B,d,rfl,hA,hB⟩:=hv.sl;obtain⟨C,e,D,f,rfl,hC,hD⟩:=hu.sl;refine Jz Tryz.func158 Tryz.ntmps158 rfl kr rfl ?_;refine ρ ?_;refine bx ?_;intro w1 b1 a8 ap U;refine ρ ?_;refine bx ?_;intro w2 b2 a7 am G;refine ρ ?_;refine alc Vq ?_;intro w3 b3 a6 ak ao;have J:=(a8.trans a7).trans a6;have l1:=U.lt;have l2:=G.lt;have U:=(U.ext a7).ext a6;have G:=G.ext a6;refine ρ ?_;refine ldW G ?_;refine ρ ?_;refine cl (Zn (N:=N') (q:=q) ⟨_,_,rfl,hC.ext J,hD.ext J⟩ om h4) ?_;rintro y w4 ⟨hY,O⟩;obtain⟨C5,e5,D5,f5,rfl,ac,aa⟩:=hY.sl;refine ρ ?_;refine stb (cs':=[.bool q.norm.neg,.slice C5 _ e5,.slice D5 _ f5]) (G.ext O) ?_ (Qv rfl rfl rfl);intro w5 F a9 ai;have af:=G.lt;have Z:GrN (Ol w3) w4 w5:=GrN.by a9 λk ek=>by injection ek with ek;subst ek;exact af
 have ac:=ac.gr Z;have aa:=aa.gr Z;have j:Ext w w5:=ai w (J.trans O) (nL a8.size am);have ae:Blk w5 b1 _ _:=(U.ext O).grown a9 (λe=>by injection e with e;omega);have a5:Blk w5 b3 _ _:=(ao.ext O).grown a9 (λe=>by injection e with e;omega);refine ρ ?_;refine ld (F.at (i:=1) rfl) ?_;refine ρ ?_;rw[len0,decide_eq_false h0];refine ρ ?_;refine ldW ae ?_;refine ρ ?_;refine ld (F.at (i:=0) rfl) ?_;refine ρ ?_;refine ld (F.at (i:=2) rfl) ?_;refine ρ ?_;refine ld (F.at (i:=1) rfl) ?_;refine ρ ?_;refine bld (Ym _ _ _ _ _ _ _ _) ?_;refine ρ ?_;refine cl (Jbf (N:=N) (p:=p) (q:=⟨q.norm.neg,q.norm.den,q.norm.num⟩) ⟨_,_,rfl,hA.ext j,hB.ext j⟩ ⟨_,_,rfl,aa,ac⟩ h1 h2 (by show q.norm.den<_;omega) (by show q.norm.num<_;omega) (nN (Nat.mul_le_mul a3 (nL a4 a1)) h5)) ?_;rintro r w6 ⟨hR,ad⟩;have eq:PR.mul p ⟨q.norm.neg,q.norm.den,q.norm.num⟩=PR.div p q:=by unfold PR.div;rw[if_neg h0]
 rw[eq]at hR;obtain⟨A',c',B',d',rfl,_,_⟩:=hR.sl;refine ρ ?_;refine stb (cs':=[.bool (PR.div p q).neg,.slice A' _ c',.slice B' _ d']) (a5.ext ad) ?_ (Qv rfl rfl rfl);intro w7 an aj ah;refine ρ ?_;exact Zo an ⟨⟨_,rfl,hR.box aj a5.lt j⟩,ah w (j.trans ad) (nL (a8.trans a7).size ak)⟩
theorem Qyv(hv:RtX N w v p)(hu:RtX N' w u q)(hN:∀ k,N k->k<w.heap.size)(hN':∀ k,N' k->k<w.heap.size)(h1:p.num<4294967296)(h2:p.den<4294967296)(h3:q.num<4294967296)(h4:q.den<4294967296):
  Ret Tryz.prog 125 [v,u] w λr w'=>r=.int .i64 (PR.cmp p q)/\Ext w w':=by
 have s1:=Qs (n:=p.num) om;have s2:=Qs (n:=p.den) om;have s3:=Qs (n:=q.num) om;have s4:=Qs (n:=q.den) om;have t2:p.dvs<4294967296:=by unfold PR.dvs;split<;>omega
 have t4:q.dvs<4294967296:=by unfold PR.dvs;split<;>omega
 have s5:=Qs (n:=p.dvs) om;have s6:=Qs (n:=q.dvs) om;obtain⟨A,c,B,d,rfl,hA,hB⟩:=id hv.sl;obtain⟨C,e,D,f,rfl,hC,hD⟩:=id hu.sl;refine Jz Tryz.func125 Tryz.ntmps125 rfl kr rfl ?_;refine ρ ?_;refine bx ?_;intro w1 b1 ae am G;refine ρ ?_;refine bx ?_;intro w2 b2 ac ak Z;have O:=ae.trans ac;have G:=G.ext ac;refine ρ ?_;refine ldW G ?_;refine ρ ?_;refine cl (Uf (hv.ext O) om) ?_;rintro _ w3 ⟨rfl,a7⟩;refine ρ ?_;refine ldW (Z.ext a7) ?_;refine ρ ?_;refine cl (Uf ((hu.ext O).ext a7) om) ?_;rintro _ w4 ⟨rfl,ad⟩;have J:=a7.trans ad;have a1:=O.trans J;have G:=G.ext J;have Z:=Z.ext J;refine ρ ?_;refine ci (λh=>?_) (λh=>?_)
 .have a8:p.sign≠q.sign:=by simpa using h
  refine ρ ?_;refine cl (Jdl _ _ _) ?_;rintro _ w5 ⟨rfl,rfl⟩;refine ρ ?_;refine Jq ⟨?_,a1⟩;unfold PR.cmp sgn;rw[if_pos a8];congr 1
  split
  .rfl
  rw[if_pos om]
 have a8:¬ p.sign≠q.sign:=by simpa using h
 have a4:Ext w4 w4.drew:=(Ext.refl w4).drew;have a3:=G.ext a4;have a2:=Z.ext a4;have y:=a1.trans a4;refine ρ ?_;refine dr [(0,0),(0,1),(0,2),(0,3),(0,6),(0,7),(0,8),(1,4),(1,5),(1,9),(1,10),(1,11),(0,12),(0,13)] kr ?_;refine ρd ?_;refine dld (a3.at (i:=1) rfl) ?_;refine ρd ?_;refine Qq (cs:=[.bool q.neg,.slice C _ e,.slice D _ f]) (λj u hu=>a2.at hu) ?_;refine ρd ?_;refine dld (a2.at (i:=1) rfl) ?_;refine ρd ?_;refine Qq (cs:=[.bool p.neg,.slice A _ c,.slice B _ d]) (λj u hu=>a3.at hu) ?_;refine ρd ?_;refine dcl (Jlx (hu.ext y) (λk hk=>nM (hN' k hk) y.size) om) ?_;rintro x5 w5 ⟨aj,a6⟩;refine⟨a6,?_⟩;refine ρd ?_;refine dcl (Vg ((hA.1.ext y).ext a6) aj.1 om om) ?_;rintro x6 w6 ⟨ai,_,aa⟩;refine⟨aa,?_⟩;have F:=(y.trans a6).trans aa;refine ρd ?_;refine dcl (Jlx (hv.ext F) (λk hk=>nM (hN k hk) F.size) om) ?_
 rintro x7 w7 ⟨ah,U⟩;refine⟨U,?_⟩;refine ρd ?_;refine dcl (Vg ((hC.1.ext F).ext U) ah.1 om om) ?_;rintro x8 w8 ⟨af,_,a5⟩;refine⟨a5,?_⟩;refine ρd ?_;refine dcl (Jxf ((ai.ext U).ext a5) af) ?_;rintro _ w9 ⟨rfl,a9⟩;refine⟨a9,?_⟩;refine ρd ?_;refine ρ ?_;refine Jq ⟨congrArg (Value.int .i64) ?_,((F.trans U).trans a5).trans a9⟩;unfold PR.cmp Vm;rw[if_neg a8];have e:(if p.num*q.dvs<q.num*p.dvs then(-1:Int) else if q.num*p.dvs<p.num*q.dvs then 1 else 0)=if p.num*q.dvs<q.num*p.dvs then -1 else if p.num*q.dvs=q.num*p.dvs then 0 else 1:=by
  split
  .rfl
  split
  .rw[if_neg om]
  rw[if_pos om]
 rw[e];have h3:(if p.num*q.dvs<q.num*p.dvs then(-1:Int) else if p.num*q.dvs=q.num*p.dvs then 0 else 1) = -1∨(if p.num*q.dvs<q.num*p.dvs then(-1:Int) else if p.num*q.dvs=q.num*p.dvs then 0 else 1)=0∨(if p.num*q.dvs<q.num*p.dvs then(-1:Int) else if p.num*q.dvs=q.num*p.dvs then 0 else 1)=1:=by
  split
  .exact .inl rfl
  split
  .exact .inr (.inl rfl)
  exact .inr (.inr rfl)
 have h4:p.sign=0∨p.sign = -1∨p.sign=1:=by
  unfold PR.sign;split
  .exact .inl rfl
  split
  .exact .inr (.inl rfl)
  exact .inr (.inr rfl)
 rcases h3 with h3|h3|h3<;>rcases h4 with h4|h4|h4<;>rw[h3,h4]<;>decide
open Go.RowKit Pl Go.Wk
variable {d k n ty:Nat}{N:Nat->Prop}{a b f p q:PR}{α:Type}{fv ov rv v:Value}{w:World}
theorem ERt: ElT Tryz.prog 80 84 3 56 (.agg #[.bool false,.slice none 0 0,.slice none 0 0]):=⟨Tryz.underlying80,info_parts kr,rfl,by decide⟩
def prz: PR:=⟨false,0,0⟩
theorem rtc0(N:Nat->Prop)(w:World): RtC N w [.bool false,.slice none 0 0,.slice none 0 0] prz:=⟨_,_,rfl,NatX.nil w,NatX.nil w⟩
theorem Qlt(n:Nat)(p:List Value×α): Jd (List.replicate n p)=Ux n λ_=>p.1:=by
 induction n with
 | zero=>rfl
 | succ n ih=>
  rw[List.replicate_succ'];have e:Jd (List.replicate n p++[p])=Jd (List.replicate n p)++p.1:=by simp[Jd]
  rw[e,ih];simp[Ux,List.range_succ,List.flatMap_append]
theorem mkRt{al:AL}{Q:Exit->Act->World->Prop}{ops:Array Oper}{rest:List Oper}{pos:String}{aft:Array Edge}{x y:Operand}(m:Nat)(hm:m<=1000)(kk:∀ w1 A,Ext w w1->(∀ N,OX 84 3 RtC N w1 w.heap.size (.slice A m m) (List.replicate m prz))->(∀ g,A=some g->w.heap.size<=g.block)->WL Tryz.prog n ops Q rest ((d,.slice A m m)::al) w1)(hx:ev al x=some (.int .i64 (m:Int)):=by rfl)(hy:ev al y=some (.int .i64 (m:Int)):=by rfl)(hd:Nat.blt d n=true:=by rfl):
  WL Tryz.prog n ops Q (⟨some d,.makeSlice 80 x y,ty,pos,aft,none⟩::rest) al w:=by
 refine mkn ERt m om (by unfold maxLen;omega) ?_ hx hy rfl rfl hd;intro w1 A i u D;refine kk w1 A i (λN=>⟨List.replicate m ([.bool false,.slice none 0 0,.slice none 0 0],prz),by simp,?_,λp j=>?_⟩) D
 .rw[List.length_replicate,Qlt];have e:(madeCells (Value.agg #[.bool false,.slice none 0 0,.slice none 0 0]).cells (m*3)).toList=Ux m λ_=>[.bool false,.slice none 0 0,.slice none 0 0]:=Qgd (zs:=[.bool false,.slice none 0 0,.slice none 0 0]) (by simp) m;rw[<-e];exact u
 rw[List.eq_of_mem_replicate j];exact⟨rfl,rtc0 N w1⟩
def mix(l' l:List α)(k:Nat): List α:=l'.take k++l.drop k
theorem Us{l' l:List α}(h:l'.length=l.length)(hk:k<=l.length): (mix l' l k).length=l.length:=by
 simp[mix,h];omega
theorem Jkt{l' l:List α}(h:l'.length=l.length)(hk:k<l.length): (mix l' l k)[k]?=l[k]?:=by
 rw[mix,List.getElem?_append_right (by simp;omega),List.length_take,Nat.min_eq_left om,Nat.sub_self,List.getElem?_drop,Nat.add_zero]
theorem Ur{l' l:List α}(h:l'.length=l.length)(hk:k<l.length){x:α}(hx:l'[k]?=some x): (mix l' l k).set k x=mix l' l (k+1):=by
 have j:l'.take (k+1)=l'.take k++[x]:=by rw[List.take_add_one,hx];rfl
 have i:l.drop k=l[k]::l.drop (k+1):=List.drop_eq_getElem_cons hk;rw[mix,mix,j,i,List.set_append_right _ _ (by simp;omega),List.length_take,Nat.min_eq_left om,Nat.sub_self,List.set_cons_zero,List.append_assoc];rfl
theorem Jbt{l' l:List α}(h:l'.length=l.length)(hk:k<l.length)(hx:l'[k]?=l[k]?): mix l' l k=mix l' l (k+1):=by
 rw[<-Ur h hk (x:=l[k]) (by rw[hx];exact gE hk)];refine List.ext_getElem? λi=>?_;by_cases e:k=i
 .subst e;rw[List.getElem?_set_self (by rw[Us h om];exact hk),Jkt h hk,List.getElem?_eq_getElem hk]
 rw[List.getElem?_set_ne e]
theorem Kw(l' l:List α): mix l' l 0=l:=by simp[mix]
theorem Jxg{l' l:List α}(h:l'.length=l.length): mix l' l l.length=l':=by simp[mix,<-h]
theorem RtX.cell(h:RtX N w v q): ∃ A c B d,v=.agg #[.bool q.neg,.slice A (Jj q.num).length c,.slice B (Jj q.den).length d]/\RtC N w [.bool q.neg,.slice A (Jj q.num).length c,.slice B (Jj q.den).length d] q:=by
 obtain⟨A,c,B,d,e,j,i⟩:=h.sl;exact⟨A,c,B,d,e,_,_,rfl,j,i⟩
theorem RtC.sl{N:Nat->Prop}{w:World}{cs:List Value}{q:PR}(h:RtC N w cs q): ∃ A c B d,cs=[.bool q.neg,.slice A (Jj q.num).length c,.slice B (Jj q.den).length d]/\RtX N w (.agg #[.bool q.neg,.slice A (Jj q.num).length c,.slice B (Jj q.den).length d]) q:=by
 obtain⟨x,y,e,j,i⟩:=h;obtain⟨A,c,rfl⟩:=j.1.sl;obtain⟨B,d,rfl⟩:=i.1.sl;exact⟨A,c,B,d,e,_,_,rfl,j,i⟩
theorem RtC.one(cs:List Value)(q:PR)(h:RtC N w cs q): ∀ u∈cs,u.oneCell'=true:=by
 obtain⟨A,c,B,d,rfl,_⟩:=h.sl;exact Qv rfl rfl rfl
abbrev Ov(w:World)(v:Value): Nat->Prop:=λk=>k<w.heap.size∨v.ownBlock=some k
theorem Jzj(n:Nat)(hn:n<=1000)(w:World): Ret Tryz.prog 123 [.int .i64 (n:Int)] w λu w'=>OX 84 3 RtC (Ov w u) w' w.heap.size u (List.replicate n pr0)/\Ext w w':=by
 refine Jz Tryz.func123 Tryz.ntmps123 rfl kr rfl ?_;refine ρ ?_;refine mkRt n hn ?_;intro w1 A a2 hO hA;have hO:=hO (Ov w (.slice A n n));refine ρ ?_;refine Jl (fun (k:Nat)=>[(3,.slice A n n),(8,.int .i64 (n:Int)),(9,.int .i64 (k:Int))]) (λk w'=>k<=n/\Ext w w'/\OX 84 3 RtC (Ov w (.slice A n n)) w' w.heap.size (.slice A n n) (mix (List.replicate n pr0) (List.replicate n prz) k)) (λk=>n-k) 0 sB ⟨Nat.zero_le _,a2,by rw[Kw];exact hO⟩ ?_;rintro k w2 ⟨hk,y,i⟩;have U:(mix (List.replicate n pr0) (List.replicate n prz) k).length=n:=by rw[Us (by simp) (by simpa using hk)];simp
 refine ρ ?_;refine ci (λh=>?_) (λh=>?_)
 .have F:k<n:=by have:=oT h;omega
  clear h;refine ρ ?_;refine cl (Gu 0 (by decide) (by decide) w2) ?_;rintro r w3 ⟨hr,J⟩;have e0:PR.int 0=pr0:=rfl;rw[e0]at hr;obtain⟨C,e,D,f,rfl,hc⟩:=hr.cell;have G:=i.ext RtC.sta J;obtain⟨A',c',cs,ev,_,O,_⟩:=id G.el;rw[U]at ev O;injection ev with ev1 ev2 ev3
  subst ev1;refine ρ ?_;refine ixq 3 k O F ?_;refine ρ ?_;obtain⟨_,_,_,_,a3⟩:=id G.form;have a5:k<(mix (List.replicate n pr0) (List.replicate n prz) k).length:=om
  refine stX RtC.sta G U.symm a5 (cs:=[.bool pr0.neg,.slice C _ e,.slice D _ f]) (a:=pr0) (RtC.sta.old hc λj Z=>.inl ?_) (λg hg=>.inr hg) (Qv rfl rfl rfl) ?_
  .rcases Z with Z|Z
   .exact nM Z y.size
   obtain⟨_,_,_,_,h3⟩:=id i.form;exact(h3 j Z).2
  intro w4 a1 a6;rw[Ur (l':=List.replicate n pr0) (l:=List.replicate n prz) (x:=pr0) (by simp) (by simpa using F) (by simp[F])]at a1;refine ρ ?_;exact Jf (k+1) sO ⟨om,Jh (y.trans J) a6 (λg hg=>(a3 g hg).1),a1⟩ om
 have a4:k=n:=by have:=oF h;omega
 subst a4;have e:=Jxg (l':=List.replicate k pr0) (l:=List.replicate k prz) (by simp);rw[List.length_replicate]at e;rw[e]at i;refine ρ ?_;exact Jq ⟨i,y⟩
structure Sl(q:PR): Prop where
 d0:q.den≠0
 n:q.num<=720
 d:q.den<=120
theorem mul_le'(hp:p.den≠0)(hq:q.den≠0): (PR.mul p q).num<=p.num*q.num/\(PR.mul p q).den<=p.den*q.den:=by
 have j:=(PR.norm_val hp).2;have i:=(PR.norm_val hq).2;refine⟨nL (Gv ⟨p.norm.neg != q.norm.neg,p.norm.num*q.norm.num,p.norm.den*q.norm.den⟩) (Nat.mul_le_mul (Gv p) (Gv q)),Nat.le_trans (Vo (q:=⟨p.norm.neg != q.norm.neg,p.norm.num*q.norm.num,p.norm.den*q.norm.den⟩) (Nat.mul_ne_zero j i)) (Nat.mul_le_mul (Vo hp) (Vo hq))⟩
theorem Sl.sm(ha:Sl a)(hf:Sl f)(hb:Sl b): Sm a (PR.mul f b):=by
 obtain⟨G,F⟩:=mul_le' hf.d0 hb.d0;have D:f.num*b.num<=720*720:=Nat.mul_le_mul hf.n hb.n;have y:f.den*b.den<=120*120:=Nat.mul_le_mul hf.d hb.d;have u:a.den*(PR.mul f b).den<=120*14400:=Nat.mul_le_mul ha.d om;have j:a.num*(PR.mul f b).den<=720*14400:=Nat.mul_le_mul ha.n om;have i:(PR.mul f b).num*a.den<=518400*120:=Nat.mul_le_mul om ha.d;have:=ha.n;exact⟨ha.d0,(PR.mul_val hf.d0 hb.d0).2,om,om,om,om⟩
theorem Sl.mm(hf:Sl f)(hb:Sl b): f.norm.den*b.norm.den<4294967296:=by
 have i:f.norm.den*b.norm.den<=120*120:=Nat.mul_le_mul (nL (Vo hf.d0) hf.d) (nL (Vo hb.d0) hb.d);omega
theorem Sl.len(h:Sl q): (Jj q.num).length<=1000:=by have:=Qs (n:=q.num) (by have:=h.n;omega);omega
def Vn(f a b:PR): PR:=if b.sign≠0 then PR.sub a (PR.mul f b) else a
theorem Jtb{row other:List PR}(hr:GX 3 RtC N w rv row)(ho:GX 3 RtC N w ov other)(hf:RtX N w fv f)(hN:∀ k,N k->k<w.heap.size)(hl:other.length=row.length)(h0:0<row.length)(hm:row.length<=1000)(hs:∀ q∈row,Sl q)(hs2:∀ q∈other,Sl q)(hsf:Sl f): Ret Tryz.prog 128 [rv,ov,fv] w λu w'=>GX 3 RtC N w' u (Zx row other f)/\Ext w w':=by
 obtain⟨A,c,_,rfl,hc,_,_,_,_⟩:=id hr.el;obtain⟨B,d,_,rfl,hd,_,_,_,_⟩:=id ho.el;obtain⟨C,e,D,g,rfl,hC,hD⟩:=id hf.sl;refine Jz Tryz.func128 Tryz.ntmps128 rfl kr rfl ?_;refine ρ ?_;refine bx ?_;intro w1 b1 ar bv am;refine ρ ?_;refine mkRt row.length hm ?_;intro w2 O aq hO ai;have hO:=hO (λk=>N k∨(Value.slice O row.length row.length).ownBlock=some k);have a9:=ar.trans aq;have a3:∀ {k},(Value.slice O row.length row.length).ownBlock=some k->w.heap.size<=k:=fun {k} h=>by
  cases O with
  | none=>cases h
  | some ad=>injection h with h;subst h;exact nL ar.size (ai ad rfl)
 have aj:∀ k,(N k∨(Value.slice O row.length row.length).ownBlock=some k)->N k∨w.heap.size<=k:=λk y=>y.elim .inl λh=>.inr (a3 h);have hr:=hr.old RtC.sta (by decide) aj;have ho:=ho.old RtC.sta (by decide) aj;have hf:=hf.old aj;generalize hM:(λk=>N k∨(Value.slice O row.length row.length).ownBlock=some k)=M at *
 have b7:∀ g,(Value.slice O row.length row.length).ownBlock=some g->M g:=λg hg=>by rw[<-hM];exact .inr hg
 have bn:∀ {w5 w':World} {ls:List PR},OX 84 3 RtC M w5 w1.heap.size (.slice O row.length row.length) ls->Ext w w5->Ext w5 w'->∀ k,M k->k<w'.heap.size:=fun {w5 w' ls} h hx hx' k y=>by
  rw[<-hM]at y;rcases y with y|y
  .exact nM (hN k y) (hx.trans hx').size
  obtain⟨_,_,_,_,h3⟩:=id h.form;exact nM (h3 k y).2 hx'.size
 refine ρ ?_;refine cpX RtC.sta hO (by simp) (hr.ext RtC.sta (by decide) a9) h0 (by decide) (λcs a h=>h) RtC.one b7 ?_;intro w3 bm ay;have a8:Ext w w3:=Jh a9 ay λk y=>a3 y;have b8:Blk w3 b1 _ _:=(am.ext aq).grown ay λe=>by
  have h1:=am.lt;have:=a3 e.symm;cases O with
  | none=>cases e
  | some ad=>injection e with e;have:=ai ad rfl;omega
 refine ρ ?_;refine ldW b8 ?_;refine ρ ?_;refine cl (Uf (hf.ext a8) hsf.len) ?_;rintro _ w4 ⟨rfl,ae⟩;have b6:=bm.ext RtC.sta ae;have bo:=b8.ext ae;have a7:=a8.trans ae;have b9:∀ {w':World} {ls:List PR},OX 84 3 RtC M w' w1.heap.size (.slice O row.length row.length) ls->ls.length<=1000->GX 3 RtC N w' (.slice O row.length row.length) ls:=fun {w' ls} h hl=>h.gx RtC.sta om λk y=>⟨by rw[<-hM];exact .inl y,λe=>by have:=a3 e;have:=hN k y;omega⟩
 refine ρ ?_;refine ci (λh=>?_) (λh=>?_)
 .have hz:f.sign=0:=eq_of_beq h;refine ρ ?_;refine Jq ⟨?_,a7⟩;unfold Zx;rw[if_pos hz];exact b9 b6 hm
 have hz:f.sign≠0:=λe=>by rw[e]at h;simp at h
 have bh:Zx row other f=List.zipWith (Vn f) row other:=by unfold Zx;rw[if_neg hz];rfl
 have Z:(List.zipWith (Vn f) row other).length=row.length:=by simp[hl]
 refine ρ ?_;refine Jl (fun (k:Nat)=>[(1,.slice B other.length d),(5,.pointer (some ⟨b1,0,none⟩)),(7,.slice O row.length row.length),(20,.int .i64 (row.length:Int)),(21,.int .i64 (k:Int))])
  (λk w'=>k<=row.length/\Ext w w'/\Blk w' b1 84 [.bool f.neg,.slice C (Jj f.num).length e,.slice D (Jj f.den).length g]/\OX 84 3 RtC M w' w1.heap.size (.slice O row.length row.length) (mix (List.zipWith (Vn f) row other) row k)) (λk=>row.length-k) 0 sB ⟨Nat.zero_le _,a7,bo,by rw[Kw];exact b6⟩ ?_
 rintro k w5 ⟨y,J,ak,G⟩;have aw:(mix (List.zipWith (Vn f) row other) row k).length=row.length:=Us Z y;refine ρ ?_;refine ci (λh=>?_) (λh=>?_)
 .have U:k<row.length:=by have:=oT h;omega
  clear h;obtain⟨B',d',_,ev,_,_,au,_,bf⟩:=id (ho.ext RtC.sta (by decide) J).el;injection ev with ev1 ev2 ev3
  subst ev1;obtain⟨ce,bu,bg,b3⟩:=bf k om;obtain⟨E,x1,F,x2,rfl,av⟩:=bg.sl;have bd:other[k]?=some other[k]:=gE om;have a2:=hs2 other[k] (List.getElem_mem _);have af:row[k]?=some row[k]:=gE U;have bb:=hs row[k] (List.getElem_mem _);refine ρ ?_;refine ixq 3 k au om ?_;refine ρ ?_;refine lds (λj u hu=>b3 j u hu) ?_;refine ρ ?_;refine cl (Uf av a2.len) ?_;rintro _ w6 ⟨rfl,a5⟩;have ao:(List.zipWith (Vn f) row other)[k]?=some (Vn f row[k] other[k]):=by simp[List.getElem?_zipWith,af,bd]
  refine ρ ?_;refine ci (λh=>?_) (λh=>?_)
  .have ac:other[k].sign≠0:=λe=>by rw[e]at h;simp at h
   have an:Vn f row[k] other[k]=PR.sub row[k] (PR.mul f other[k]):=by unfold Vn;rw[if_pos ac]
   have ba:Ext w6 w6.drew:=(Ext.refl w6).drew;have i:=a5.trans ba;have bl:=G.ext RtC.sta i;obtain⟨O',_,_,ev,_,ah,az⟩:=id bl.el;rw[aw]at ev ah;injection ev with ev1 ev2 ev3
   subst ev1;obtain⟨ce,bp,aa,b2⟩:=az k om;have e2:(mix (List.zipWith (Vn f) row other) row k)[k]'(by omega)=row[k]:=by
    have:=Jkt Z U;rw[List.getElem?_eq_getElem om,af]at this;injection this
   rw[e2]at aa;obtain⟨E2,y1,F2,y2,rfl,bc⟩:=aa.sl;refine ρ ?_;refine dr [(0,0),(0,1),(0,2),(0,3),(0,4),(0,5),(0,6),(0,7),(0,8),(0,9),(0,10),(1,11),(1,12),(0,13),(2,14)] kr ?_;refine ρd ?_;refine Qr 3 k ah U ?_;refine ρd ?_;refine Qq (λj u hu=>b2 j u hu) ?_;refine ρd ?_;refine Qq (cs:=[.bool f.neg,.slice C _ e,.slice D _ g]) (λj u hu=>(ak.ext i).at hu) ?_;refine ρd ?_;refine Qr 3 k (au.ext i) om ?_;refine ρd ?_;refine Qq (λj u hu=>Qp i (b3 j u hu)) ?_;refine ρd ?_;have bs:=hsf.n;have bt:=hsf.d;have bq:=a2.n;have br:=a2.d;refine dcl (Jbf ((hf.ext J).ext i) (av.ext i) om om om om (hsf.mm a2)) ?_;rintro x7 w7 ⟨bj,a4⟩;refine⟨a4,?_⟩;refine ρd ?_;refine dcl (Qys (bc.ext a4) bj (bb.sm hsf a2)) ?_;rintro x8 w8 ⟨b4,ap⟩;refine⟨ap,?_⟩;rw[<-an]at b4;have a6:=a4.trans ap;have a1:=i.trans a6;obtain⟨G1,g1,G2,g2,rfl,bi⟩:=b4.cell
   refine ρd ?_;refine Qr 3 k (ah.ext a6) U ?_;refine ρd ?_;refine Jg ?_;refine stX RtC.sta (G.ext RtC.sta a1) aw.symm (show k<_ by omega) (cs:=[.bool (Vn f row[k] other[k]).neg,.slice G1 _ g1,.slice G2 _ g2]) (a:=Vn f row[k] other[k]) (RtC.sta.old bi λj hj=>.inl ?_) b7 (Qv rfl rfl rfl) ?_
   .exact bn G J (i.trans a4) j hj
   intro w9 b5 ax;rw[Ur Z U ao]at b5;refine ρ ?_;refine Jf (k+1) sO ⟨om,Jh (J.trans a1) ax (λg hg=>a3 hg),(ak.ext a1).grown ax ?_,b5⟩ om;intro e;have h1:=am.lt;cases O with
   | none=>cases e
   | some ad=>injection e with e;have:=ai ad rfl;omega
  have ac:other[k].sign=0:=by simpa using h
  have an:(List.zipWith (Vn f) row other)[k]?=row[k]?:=by rw[ao,af];unfold Vn;rw[if_neg (by simp[ac])]
  rw[Jbt Z U an]at G;refine ρ ?_;exact Jf (k+1) sO ⟨om,J.trans a5,ak.ext a5,G.ext RtC.sta a5⟩ om
 have be:k=row.length:=by have:=oF h;omega
 subst be;rw[Jxg Z]at G;refine ρ ?_;refine Jq ⟨?_,J⟩;rw[bh];exact b9 G om
end Go.Proofs.YtebiphhfkdbpfaaGreat
namespace Go.Wk
open Go.RowKit
variable {n ty:Nat}
theorem stF{P:Program}{al:AL}{w:World}{Q:Exit->Act->World->Prop}{ops:Array Oper}{rest:List Oper}{pos:String}{aft:Array Edge}{tt:TT}[h:Tab P tt]{x y:Operand}{t g bt i:Nat}{k:TK}{u v:Value}{cs:List Value}(hb:Blk w g bt cs)(hu:cs[i]?=some u)(kk:∀ w1,Blk w1 g bt (cs.set i v)->w.grownBy w1 (some g)->WL P n ops Q rest al w1)(ht:tk tt t=some k:=by rfl)(hk:k.size=1:=by rfl)(hp:Zb k.desc=true:=by rfl)(hx:ev al x=some (.pointer (some ((⟨g,0,none⟩:Addr).add i))):=by rfl)(hy:ev al y=some v:=by rfl)(hv:v.oneCell'=true:=by rfl):
  WL P n ops Q (⟨none,.store t x y,ty,pos,aft,none⟩::rest) al w:=by
 have e:(⟨g,0,none⟩:Addr).add i=⟨g,i,none⟩:=by rw[Zu,Nat.zero_add]
 refine sto (hb.at hu) ?_ (kk _ ?_ ⟨rfl,rfl,rfl,by simp[World.setCell],λk hk hn=>Below.heap_setCell w _ v k (λj=>hn (by rw[j,e]))⟩) ht hk hp hx hy hv
 .rw[e];exact hb.frozen i
 rw[e];exact hb.set i v
end Go.Wk
namespace Go.Proofs.YtebiphhfkdbpfaaGreat
open Go.RowKit Pl Go.Wk
attribute [local irreducible] WC WL QX WD WDB WP WN WG WH
variable {cs xs':List Value}{b base base' e' k m m' n sz':Nat}{w:World}
theorem EMx: ElT Tryz.prog 120 80 1 24 (.slice none 0 0):=⟨Tryz.underlying120,info_parts kr,rfl,by decide⟩
def MxC(N:Nat->Prop)(w:World)(cs:List Value)(l:List PR): Prop:=∃ v,cs=[v]/\GX 3 RtC N w v l
theorem MxC.sta: Sta MxC:=⟨λ⟨v,e,h⟩ i=>⟨v,e,h.gr RtC.sta (by decide) i⟩,λ⟨v,e,h⟩ j=>⟨v,e,h.old RtC.sta (by decide) j⟩⟩
def TN(b:Nat)(vr vb:Value): Nat->Prop:=λk=>k=b∨vr.ownBlock=some k∨vb.ownBlock=some k
structure TbV(w:World)(base b:Nat)(vr vg vb:Value)(t:PT): Prop where
 blk:Blk w b 168 [.int .i64 (t.n:Int),.int .i64 (t.m:Int),vr,vg,vb]
 rows:OX 80 1 MxC (TN b vr vb) w base vr t.rows
 goal:GX 3 RtC (TN b vr vb) w vg t.goal
 bas:Qz w base vb t.basis
section
variable {w w':World} {base b:Nat} {vr vg vb:Value} {t:PT}
theorem TbV.ext(h:TbV w base b vr vg vb t)(hx:Ext w w'): TbV w' base b vr vg vb t:=⟨h.blk.ext hx,h.rows.ext MxC.sta hx,h.goal.ext RtC.sta (by decide) hx,Jv h.bas hx⟩
theorem TbV.lt(h:TbV w base b vr vg vb t): ∀ k,TN b vr vb k->k<w.heap.size:=λk i=>by
 rcases i with i|i|i
 .rw[i];exact h.blk.lt
 .obtain⟨_,_,_,_,j⟩:=id h.rows.form;exact(j k i).2
 obtain⟨_,_,_,_,j⟩:=Jy h.bas;exact(j k i).2
theorem TbV.ne1(h:TbV w base b vr vg vb t): vr.ownBlock≠some b:=λe=>by
 obtain⟨ps,_,i,_⟩:=id h.rows;exact h.blk.ne_own i kr e.symm
theorem TbV.ne2(h:TbV w base b vr vg vb t): vb.ownBlock≠some b:=λe=>h.blk.ne_own h.bas kr e.symm
end
theorem Jkk{v v':Value}{cs:List Nat}(h:Qz w base v cs)(h':w.ownsRow base' e' sz' v' m' xs')(hne:Nat.beq 3 e'=false)(h1:v.ownBlock=some k)(h2:v'.ownBlock=some k): False:=by
 rcases h.2 with⟨e,_⟩|⟨g,cap,cur,e,_,hg,_⟩
 .rw[e]at h1;cases h1
 rcases h'.2 with⟨i,_⟩|⟨g',cap',cur',i,_,hg',_⟩
 .rw[i]at h2;cases h2
 rw[e]at h1;rw[i]at h2;injection h1 with h1;injection h2 with h2
 simp only at h1 h2;rw[h1]at hg;rw[h2]at hg';rw[hg]at hg';injection hg' with hg'
 injection hg' with _ hg' _
 rw[hg']at hne;simp at hne
theorem Gt(hB:Blk w b 168 cs)(h0:cs[0]?=some (.int .i64 (n:Int)))(h1:cs[1]?=some (.int .i64 (m:Int)))(hn:n<=1000)(hm:m<=1000):
  Ret Tryz.prog 89 [.pointer (some ⟨b,0,none⟩)] w λu w'=>u=.int .i64 ((n+m+1:Nat):Int)/\Ext w w':=by
 refine Jz Tryz.func89 Tryz.ntmps89 rfl kr rfl ?_;have i:Ext w w.drew:=(Ext.refl w).drew;have j:=hB.ext i;refine ρ ?_;refine dr [(0,0),(0,1),(0,2),(0,3),(0,4),(0,5),(0,6),(0,7),(0,8),(0,9),(0,10)] kr ?_;refine ρd ?_;refine dld (j.at h0) ?_;refine ρd ?_;refine dld (j.at h1) ?_;refine ρd ?_;refine ρ ?_;refine Jq ⟨?_,i⟩;rfl
theorem Qsj(hB:Blk w b 168 cs)(h0:cs[0]?=some (.int .i64 (n:Int)))(h1:cs[1]?=some (.int .i64 (m:Int)))(hn:n<=1000)(hm:m<=1000):
  Ret Tryz.prog 124 [.pointer (some ⟨b,0,none⟩)] w λu w'=>u=.int .i64 ((n+m:Nat):Int)/\Ext w w':=by
 refine Jz Tryz.func124 Tryz.ntmps124 rfl kr rfl ?_;have i:Ext w w.drew:=(Ext.refl w).drew;have j:=hB.ext i;refine ρ ?_;refine dr [(0,0),(0,1),(0,2),(0,3),(0,4),(0,5),(0,6),(0,7),(0,8),(0,9)] kr ?_;refine ρd ?_;refine dld (j.at h0) ?_;refine ρd ?_;refine dld (j.at h1) ?_;refine ρd ?_;refine ρ ?_;refine Jq ⟨?_,i⟩;rfl
open Go.RowKit Pl Go.Wk
variable {c r:Nat}{vb vg vg' vr:Value}
def pvr(t:PT)(r c:Nat): List PR:=dvR (t.rows.getD r []) ((t.rows.getD r []).getD c pr0)
def Uh(t:PT)(r c:Nat): List (List PR):=t.rows.mapIdx λi row=>if i=r then row else Zx row (pvr t r c) (row.getD c pr0)
theorem Ys(t:PT)(r c:Nat): (Uh t r c).length=t.rows.length:=by simp[Uh]
theorem Jmd(t:PT)(hr:r<t.rows.length): (Uh t r c).set r (pvr t r c)=(t.pivot r c).rows:=by
 refine List.ext_getElem? λi=>?_;have e:(t.pivot r c).rows=t.rows.mapIdx λi j=>if i=r then pvr t r c else Zx j (pvr t r c) (j.getD c pr0):=rfl
 rw[e];by_cases h:r=i
 .subst h;rw[List.getElem?_set_self (by rw[Ys];exact hr),List.getElem?_mapIdx,List.getElem?_eq_getElem hr];simp
 rw[List.getElem?_set_ne h,Uh,List.getElem?_mapIdx,List.getElem?_mapIdx];cases t.rows[i]? with
 | none=>rfl
 | some x=>
  have hi:¬ i=r:=λe=>h e.symm;simp[hi]
theorem nzS(l:List Nat)(i x:Nat): (Jt (nz l)).set i (.int .i64 (x:Int))=Jt (nz (l.set i x)):=by simp[Jt,nz,List.map_set]
section
variable {w w':World} {base b:Nat} {vr vg vb:Value} {t:PT}
theorem TbV.rowsT(h:TbV w base b vr vg vb t){rows':List (List PR)}(ho:OX 80 1 MxC (TN b vr vb) w' base vr rows')(hg:w.grownBy w' vr.ownBlock): TbV w' base b vr vg vb ⟨t.n,t.m,rows',t.goal,t.basis⟩:=by
 obtain⟨ps,_,i,_⟩:=id h.rows;refine⟨h.blk.grown hg (λe=>h.ne1 e.symm),ho,h.goal.gr RtC.sta (by decide) (GrN.by hg λk j=>.inr (.inl j)),Qj h.bas (N:=λk=>vr.ownBlock=some k) (GrN.by hg λk j=>j) λg y u=>Jkk h.bas i kr y u⟩
theorem TbV.goalT(h:TbV w base b vr vg vb t){goal':List PR}(hB:Blk w' b 168 [.int .i64 (t.n:Int),.int .i64 (t.m:Int),vr,vg',vb])(hG:GX 3 RtC (TN b vr vb) w' vg' goal')(hg:w.grownBy w' (some b)): TbV w' base b vr vg' vb ⟨t.n,t.m,t.rows,goal',t.basis⟩ :=
 ⟨hB,h.rows.gr MxC.sta (M:=λk=>k=b) (GrN.by hg λk i=>by injection i with i;exact i.symm) λk i=>⟨.inl i,λe=>h.ne1 (by rw[e,i])⟩,hG,Qj h.bas (N:=λk=>k=b) (GrN.by hg λk i=>by injection i with i;exact i.symm) λg u j=>h.ne2 (by rw[u,j])⟩
theorem TbV.basT(h:TbV w base b vr vg vb t){basis':List Nat}(ho:Qz w' base vb basis')(hg:w.grownBy w' vb.ownBlock): TbV w' base b vr vg vb ⟨t.n,t.m,t.rows,t.goal,basis'⟩:=by
 obtain⟨ps,_,j,_⟩:=id h.rows;exact⟨h.blk.grown hg (λe=>h.ne2 e.symm),h.rows.gr MxC.sta (M:=λk=>vb.ownBlock=some k) (GrN.by hg λk i=>i) λk i=>⟨.inr (.inr i),λe=>Jkk h.bas j kr i e⟩,h.goal.gr RtC.sta (by decide) (GrN.by hg λk i=>.inr (.inr i)),ho⟩
end
structure TSl(t:PT): Prop where
 row:∀ l∈t.rows,∀ q∈l,Sl q
 goal:∀ q∈t.goal,Sl q
theorem Qcg{w:World}{base b:Nat}{t:PT}(hT:TbV w base b vr vg vb t)(hp:POk t)(hs:TSl t)(hs':TSl (t.pivot r c))(hr:r<t.m)(hc:c<t.n+t.m+1)(hz:((t.rows.getD r []).getD c pr0).norm.num≠0)(hn:t.n<=100)(hm:t.m<=100)(hbase:base<=w.heap.size):
  Ret Tryz.prog 126 [.pointer (some ⟨b,0,none⟩),.int .i64 (r:Int),.int .i64 (c:Int)] w λu w'=>u=.tuple #[]/\∃ vg',TbV w' base b vr vg' vb (t.pivot r c)/\GrN (TN b vr vb) w w':=by
 have a5:r<t.rows.length:=by rw[hp.rows];exact hr
 have hL:t.rows[r]?=some (t.rows.getD r []):=by rw[List.getElem?_eq_getElem a5];simp[List.getD,List.getElem?_eq_getElem a5]
 obtain⟨ax,dx⟩:=hp.row r hr;generalize hrow:t.rows.getD r []=row at *
 have bp:t.right+1=t.n+t.m+2:=rfl;rw[bp]at ax;have ah:c<row.length:=om
 have e7:t.rows.length<=100:=by rw[hp.rows];exact hm
 have c5:row∈t.rows:=List.mem_of_getElem? hL;have d5:t.rows[r]=row:=by rw[List.getElem?_eq_getElem a5]at hL;injection hL
 refine Jz Tryz.func126 Tryz.ntmps126 rfl kr rfl ?_;obtain⟨R,rc,_,rfl,e6,cq,df⟩:=id hT.rows.el;obtain⟨ce,ea,⟨dw,rfl,hG⟩,bw⟩:=df r a5;rw[d5]at hG;obtain⟨A,ac,_,rfl,eb,_,ed,_,ec⟩:=id hG.el;have ak:∀ {w'},Ext w w'->w'.cell? (adr R r)=some (.slice A row.length ac):=λhx=>by
  have:=Qp hx (bw 0 _ rfl);rwa [Nat.mul_one,add_zero]at this
 refine ρ ?_;refine ld (hT.blk.at (i:=2) rfl) ?_;refine ρ ?_;refine ix r cq a5 ?_;refine ρ ?_;refine ld (ak (Ext.refl w)) ?_;refine ρ ?_;refine mkRt row.length om ?_;intro w1 O aw hO dh;have b4:∀ {k},(Value.slice O row.length row.length).ownBlock=some k->w.heap.size<=k:=fun {k} h=>by
  cases O with
  | none=>cases h
  | some ad=>injection h with h;subst h;exact dh ad rfl
 have cn:=hT.lt;have dd:∀ k,TN b (.slice R t.rows.length rc) vb k->(Value.slice O row.length row.length).ownBlock≠some k:=λk Z e=>by have:=b4 e;have:=cn k Z;omega
 have hO:=hO (λk=>TN b (.slice R t.rows.length rc) vb k∨(Value.slice O row.length row.length).ownBlock=some k);have dk:∀ k,(TN b (.slice R t.rows.length rc) vb k∨(Value.slice O row.length row.length).ownBlock=some k)->TN b (.slice R t.rows.length rc) vb k∨w.heap.size<=k:=λk Z=>Z.elim .inl λh=>.inr (b4 h);have dq:=hG.old RtC.sta (by decide) dk;generalize hM:(λk=>TN b (.slice R t.rows.length rc) vb k∨(Value.slice O row.length row.length).ownBlock=some k)=M at *
 have ai:∀ g,(Value.slice O row.length row.length).ownBlock=some g->M g:=λg hg=>by rw[<-hM];exact .inr hg
 have de:=hT.ext aw;refine ρ ?_;refine ld (de.blk.at (i:=2) rfl) ?_;refine ρ ?_;refine ix r (cq.ext aw) a5 ?_;refine ρ ?_;refine ld (ak aw) ?_;refine ρ ?_;refine cpX RtC.sta hO (by simp) (dq.ext RtC.sta (by decide) aw) om (by decide) (λcs a h=>h) RtC.one ai ?_;intro w2 bz d7;have c1:Ext w w2:=Jh aw d7 λk Z=>b4 Z;obtain⟨O',oc,_,ev,_,dj,di⟩:=id bz.el;injection ev with ev1 ev2 ev3
 subst ev1;obtain⟨ce,e3,d8,am⟩:=di c ah;obtain⟨C,cc,D,dc,rfl,cd⟩:=d8.sl;have cg:row[c]=row.getD c pr0:=by simp[List.getD,List.getElem?_eq_getElem ah]
 rw[cg]at cd am;have bo:Sl (row.getD c pr0):=by rw[<-cg];exact hs.row row c5 _ (List.getElem_mem _)
 generalize hdd:row.getD c pr0=dv at *
 refine ρ ?_;refine ixq 3 c dj ah ?_;refine ρ ?_;refine lds (λj u hu=>am j u hu) ?_;refine ρ ?_;refine alc Vq ?_;intro w3 b3 cy da dt;refine ρ ?_;refine stb (cs':=[.bool dv.neg,.slice C _ cc,.slice D _ dc]) dt ?_ (Qv rfl rfl rfl);intro w4 ds e9 cx;have aj:Ext w2 w4:=cx w2 cy da;refine ρ ?_;have bd:∀ k,M k->k<w2.heap.size:=λk Z=>by
  rw[<-hM]at Z;rcases Z with Z|Z
  .exact nM (cn k Z) c1.size
  obtain⟨_,_,_,_,h3⟩:=id bz.form;exact(h3 k Z).2
 have af:(dvR row dv).length=row.length:=by simp[dvR]
 refine Jl (fun (k:Nat)=>[(0,.pointer (some ⟨b,0,none⟩)),(1,.int .i64 (r:Int)),(2,.int .i64 (c:Int)),(6,.slice O row.length row.length),(7,.pointer (some ⟨b3,0,none⟩)),(33,.int .i64 (row.length:Int)),(34,.int .i64 (k:Int))])
  (λk w'=>k<=row.length/\Ext w w'/\Blk w' b3 84 [.bool dv.neg,.slice C (Jj dv.num).length cc,.slice D (Jj dv.den).length dc]/\OX 84 3 RtC M w' w.heap.size (.slice O row.length row.length) (mix (dvR row dv) row k)/\RtX M w' (.agg #[.bool dv.neg,.slice C (Jj dv.num).length cc,.slice D (Jj dv.den).length dc]) dv/\w2.heap.size<=w'.heap.size) (λk=>row.length-k) 0 sB ⟨Nat.zero_le _,c1.trans aj,ds,by rw[Kw];exact bz.ext RtC.sta aj,cd.ext aj,aj.size⟩ ?_
 rintro k w5 ⟨Z,av,b5,a9,az,ao⟩;have br:(mix (dvR row dv) row k).length=row.length:=Us af Z;refine ρ ?_;refine ci (λh=>?_) (λh=>?_)
 .have y:k<row.length:=by have:=oT h;omega
  clear h;obtain⟨O2,_,_,ev,_,b8,cb⟩:=id a9.el;rw[br]at ev b8;injection ev with ev1 ev2 ev3
  subst ev1;obtain⟨ce,e4,bh,bi⟩:=cb k om;have ae:row[k]?=some row[k]:=gE y;have e2:(mix (dvR row dv) row k)[k]'(by omega)=row[k]:=by
   have:=Jkt af y;rw[List.getElem?_eq_getElem om,ae]at this;injection this
  rw[e2]at bh;obtain⟨E2,y1,F2,y2,rfl,c4⟩:=bh.sl;have b7:=hs.row row c5 row[k] (List.getElem_mem _);have b6:(dvR row dv)[k]?=some (if row[k].sign≠0 then PR.div row[k] dv else row[k]):=by simp[dvR,ae]
  refine ρ ?_;refine ixq 3 k b8 y ?_;refine ρ ?_;refine lds (λj u hu=>bi j u hu) ?_;refine ρ ?_;refine cl (Uf c4 b7.len) ?_;rintro _ w6 ⟨rfl,an⟩;refine ρ ?_;refine ci (λh=>?_) (λh=>?_)
  .have bn:row[k].sign≠0:=λe=>by rw[e]at h;simp at h
   rw[if_pos bn]at b6;have a8:Ext w6 w6.drew:=(Ext.refl w6).drew;have a4:=an.trans a8;refine ρ ?_;refine drH (λi=>i == 12) ?_;refine Uj (fuel':=2) 14 [(0,0),(0,1),(0,2),(0,3),(0,4),(0,5),(0,6),(1,7),(0,8),(0,9),(0,11)] #[true,true,true,true,true,true,true,true,true,true,false,true,false] kr kr rfl ?_;refine ρd ?_;refine Qr 3 k (b8.ext a4) y ?_;refine ρd ?_;refine Qq (λj u hu=>Qp a4 (bi j u hu)) ?_;refine ρd ?_;refine Qq (cs:=[.bool dv.neg,.slice C _ cc,.slice D _ dc]) (λj u hu=>(b5.ext a4).at hu) ?_;refine ρd ?_;have f1:=b7.n;have f2:=b7.d;have f3:=bo.n;have f4:=bo.d;have f5:row[k].den*dv.num<=120*720:=Nat.mul_le_mul f2 f3;refine dcl (Jlz (c4.ext a4) (az.ext a4) hz b7.d0 bo.d0 om om om om om) ?_;rintro _ w7 ⟨⟨x7,rfl,db⟩,a3⟩;refine⟨a3,?_⟩;have F:=a4.trans a3;obtain⟨G1,g1,G2,g2,rfl,cj⟩:=db.cell;refine ρd ?_
   refine Qr 3 k (b8.ext F) y ?_;refine ρd ?_;refine Uq ?_;refine Jxl 10 12 kr rfl rfl rfl ?_ ?_
   .refine ρ ?_;refine Xq (λ_=>Ext.refl _) ?_;refine Zs 12 kr rfl rfl ?_;refine stX RtC.sta (a9.ext RtC.sta F) br.symm (show k<_ by omega) (cs:=[.bool (PR.div row[k] dv).neg,.slice G1 _ g1,.slice G2 _ g2]) (a:=PR.div row[k] dv) (RtC.sta.old cj λj hj=>.inl (nM (bd j hj) (nL ao a4.size))) ai (Qv rfl rfl rfl) ?_;intro w8 aa a1;rw[Ur af y b6]at aa;have ay:GrN M w7 w8:=GrN.by a1 ai
    refine ρ ?_;refine Xq (λh=>absurd h (by decide)) ?_;refine Xg kr ?_;refine ρ ?_;refine Jf (k+1) sO ⟨om,Jh (av.trans F) a1 (λg hg=>b4 hg),(b5.ext F).grown a1 ?_,aa,(az.ext F).gr ay,Nat.le_trans ao (nL F.size a1.size)⟩ om;intro e;have h1:=bd b3 (ai b3 e.symm);omega
   refine ρ ?_;refine stX RtC.sta (a9.ext RtC.sta F) br.symm (show k<_ by omega) (cs:=[.bool (PR.div row[k] dv).neg,.slice G1 _ g1,.slice G2 _ g2]) (a:=PR.div row[k] dv) (RtC.sta.old cj λj hj=>.inl (nM (bd j hj) (nL ao a4.size))) ai (Qv rfl rfl rfl) ?_;intro w8 aa a1;rw[Ur af y b6]at aa;have ay:GrN M w7 w8:=GrN.by a1 ai
   refine ρ ?_;refine Xq (λh=>absurd h (by decide)) ?_;refine Zs 10 kr rfl rfl ?_;refine ρ ?_;refine Xq (λ_=>Ext.refl _) ?_;refine Xg kr ?_;refine ρ ?_;refine Jf (k+1) sO ⟨om,Jh (av.trans F) a1 (λg hg=>b4 hg),(b5.ext F).grown a1 ?_,aa,(az.ext F).gr ay,Nat.le_trans ao (nL F.size a1.size)⟩ om;intro e;have h1:=bd b3 (ai b3 e.symm);omega
  have bn:row[k].sign=0:=by simpa using h
  have du:(dvR row dv)[k]?=row[k]?:=by rw[b6,ae,if_neg (by simp[bn])]
  rw[Jbt af y du]at a9;refine ρ ?_;exact Jf (k+1) sO ⟨om,av.trans an,b5.ext an,a9.ext RtC.sta an,az.ext an,Nat.le_trans ao an.size⟩ om
 have bt:k=row.length:=by have:=oF h;omega
 clear h Z;subst bt;rw[Jxg af]at a9;have c6:dvR row dv=pvr t r c:=by unfold pvr;rw[hrow,hdd]
 have c7:(pvr t r c).length=row.length:=by rw[<-c6];exact af
 rw[c6]at a9;have co:=hT.ext av;have d6:GX 3 RtC (TN b (.slice R t.rows.length rc) vb) w5 (.slice O row.length row.length) (pvr t r c):=a9.gx RtC.sta om λk Z=>⟨by rw[<-hM];exact .inl Z,dd k Z⟩;clear a9 az b5 ao;refine ρ ?_;refine ld (co.blk.at (i:=2) rfl) ?_;have d1:pvr t r c∈(t.pivot r c).rows:=by rw[<-Jmd t a5];exact List.mem_set (by rw[Ys];exact a5) _
 have c2:∀ q∈pvr t r c,Sl q:=hs'.row _ d1;have J:∀ i (hi:i<t.rows.length),t.rows[i].length=row.length:=λi hi=>by
  have:=(hp.row i (by rw[<-hp.rows];exact hi)).1;rw[List.getD,List.getElem?_eq_getElem hi,bp]at this;rw[ax];exact this
 refine ρ ?_;refine Jl (fun (k:Nat)=>[(0,.pointer (some ⟨b,0,none⟩)),(1,.int .i64 (r:Int)),(2,.int .i64 (c:Int)),(6,.slice O row.length row.length),(60,.int .i64 (t.rows.length:Int)),(61,.int .i64 (k:Int))])
  (λk w'=>k<=t.rows.length/\TbV w' base b (.slice R t.rows.length rc) vg vb ⟨t.n,t.m,mix (Uh t r c) t.rows k,t.goal,t.basis⟩/\GX 3 RtC (TN b (.slice R t.rows.length rc) vb) w' (.slice O row.length row.length) (pvr t r c)/\GrN (TN b (.slice R t.rows.length rc) vb) w w') (λk=>t.rows.length-k) 0 sB
  ⟨Nat.zero_le _,by rw[Kw];exact co,d6,GrN.ext av⟩ ?_
 rintro k w6 ⟨Z,ar,bc,bu⟩;have bq:(mix (Uh t r c) t.rows k).length=t.rows.length:=Us (Ys t r c) Z;refine ρ ?_;refine ci (λh=>?_) (λh=>?_)
 .have y:k<t.rows.length:=by have:=oT h;omega
  clear h;have ae:t.rows[k]?=some t.rows[k]:=gE y;have b9:(Uh t r c)[k]?=some (if k=r then t.rows[k] else Zx t.rows[k] (pvr t r c) (t.rows[k].getD c pr0)):=by simp[Uh,ae]
  refine ρ ?_;refine ci (λh=>?_) (λh=>?_)
  .have bs:k≠r:=λe=>by subst e;simp at h
   rw[if_neg bs]at b9;have a8:Ext w6 w6.drew:=(Ext.refl w6).drew;have a2:=ar.ext a8;have au:=bc.ext RtC.sta (by decide) a8;obtain⟨R',cw,_,ev,_,a6,bm⟩:=id a2.rows.el;simp only[bq]at ev a6 bm;injection ev with ev1 ev2 ev3
   subst ev1;obtain⟨ce,e1,⟨vk,rfl,c0⟩,d9⟩:=bm k y;have e2:(mix (Uh t r c) t.rows k)[k]'(by omega)=t.rows[k]:=by
    have:=Jkt (Ys t r c) y;rw[List.getElem?_eq_getElem om,ae]at this;injection this
   rw[e2]at c0;obtain⟨K,kc,_,ek,e8,_,cu,_,dl⟩:=id c0.el;rw[J k y]at ek cu;subst ek;obtain⟨ce,e0,bg,bb⟩:=dl c (by rw[J k y];exact ah);have bf:t.rows[k][c]'(by rw[J k y];exact ah)=t.rows[k].getD c pr0:=by simp[List.getD,List.getElem?_eq_getElem (show c<t.rows[k].length by rw[J k y];exact ah)]
   rw[bf]at bg;have c3:Sl (t.rows[k].getD c pr0):=by rw[<-bf];exact hs.row _ (List.getElem_mem _) _ (List.getElem_mem _)
   obtain⟨E1,x1,E2,x2,rfl,d2⟩:=bg.sl;have bj:w6.drew.cell? (adr R k)=some (.slice K row.length kc):=by
    have:=d9 0 _ rfl;rwa [Nat.mul_one,add_zero]at this
   refine ρ ?_;refine dr [(0,0),(0,1),(0,2),(0,3),(0,4),(0,5),(0,6),(0,7),(0,8),(0,9),(0,10),(0,11),(0,12),(0,13),(0,14),(0,15),(0,16),(0,17),(0,18),(0,19),(0,20),(0,21),(0,22),(1,23),(0,24),(2,25)] kr ?_;refine ρd ?_;refine dld (a2.blk.at (i:=2) rfl) ?_;refine ρd ?_;refine dld (a2.blk.at (i:=2) rfl) ?_;refine ρd ?_;refine dix k a6 y ?_;refine ρd ?_;refine dld bj ?_;refine ρd ?_;refine dld (a2.blk.at (i:=2) rfl) ?_;refine ρd ?_;refine dix k a6 y ?_;refine ρd ?_;refine dld bj ?_;refine ρd ?_;refine Qr 3 c cu ah ?_;refine ρd ?_;refine Qq (λj u hu=>bb j u hu) ?_;refine ρd ?_;refine dcl (Jtb c0 au d2 a2.lt (by rw[c7,J k y]) (by rw[J k y];omega) (by rw[J k y];omega) (hs.row _ (List.getElem_mem _)) c2 c3) ?_;rintro u w7 ⟨hU,a3⟩;refine⟨a3,?_⟩;have aq:=a2.ext a3;obtain⟨U,uc,_,rfl,_,_,_,_,_⟩:=id hU.el;refine ρd ?_;refine dix k (a6.ext a3) y ?_;refine ρd ?_;refine Jg ?_
   refine stX1 MxC.sta aq.rows bq.symm (show k<_ by rw[bq];exact y) (u:=.slice U _ uc) (a:=Zx t.rows[k] (pvr t r c) (t.rows[k].getD c pr0)) ⟨_,rfl,hU⟩ (λg hg=>.inr (.inl hg)) rfl ?_;intro w8 aa a1;rw[Ur (Ys t r c) y b9]at aa;have ap:=aq.rowsT aa a1;have a7:GrN (TN b (.slice R t.rows.length rc) vb) w7 w8:=GrN.by a1 λk Z=>.inr (.inl Z)
   refine ρ ?_;exact Jf (k+1) sO ⟨om,ap,(au.ext RtC.sta (by decide) a3).gr RtC.sta (by decide) a7,(bu.trans (GrN.ext (a8.trans a3))).trans a7⟩ om
  have bs:k=r:=by
   have:((k:Int) == (r:Int))=true:=by simpa using h
   have:=eq_of_beq this;omega
  rw[if_pos bs]at b9;rw[Jbt (Ys t r c) y (by rw[b9,ae])]at ar;refine ρ ?_;exact Jf (k+1) sO ⟨om,ar,bc,bu⟩ om
 have bt:k=t.rows.length:=by have:=oF h;omega
 clear h Z;subst bt;rw[Jxg (Ys t r c)]at ar;have a8:Ext w6 w6.drew:=(Ext.refl w6).drew;have a2:=ar.ext a8;have au:=bc.ext RtC.sta (by decide) a8;have ba:=hp.goal.1;rw[bp]at ba;obtain⟨G,gc,_,rfl,_,_,dn,_,dm⟩:=id a2.goal.el;have bv:c<t.goal.length:=om
 obtain⟨ce,dz,bl,ch⟩:=dm c bv;have be:t.goal[c]=t.goal.getD c pr0:=by simp[List.getD,List.getElem?_eq_getElem bv]
 simp only[be]at bl;have cz:Sl (t.goal.getD c pr0):=by rw[<-be];exact hs.goal _ (List.getElem_mem _)
 obtain⟨E1,x1,E2,x2,rfl,d3⟩:=bl.sl;refine ρ ?_;refine drC 18 [0,1,5,6,10] [(0,2),(0,3),(0,4),(0,7),(0,8),(0,9),(0,11),(0,12),(1,13),(0,14),(0,15),(2,16)] kr ?_;refine ρp ?_;refine ρd ?_;refine dld (a2.blk.at (i:=3) rfl) ?_;refine ρd ?_;refine dld (a2.blk.at (i:=3) rfl) ?_;refine ρd ?_;refine Qr 3 c dn bv ?_;refine ρd ?_;refine Qq (λj u hu=>ch j u hu) ?_;refine ρd ?_;refine dcl (Jtb a2.goal au d3 a2.lt (by rw[c7,ba,ax]) (by rw[ba];omega) (by rw[ba];omega) hs.goal c2 cz) ?_;rintro u w7 ⟨hU,a3⟩;refine⟨a3,?_⟩;have aq:=a2.ext a3;obtain⟨U,uc,_,rfl,_,_,_,_,_⟩:=id hU.el;refine ρd ?_;refine Jg ?_;refine stF (i:=3) aq.blk rfl ?_;intro w8 cv a1;have a7:GrN (TN b (.slice R t.rows.length rc) vb) w7 w8:=GrN.by a1 λk Z=>by injection Z with Z;exact .inl Z.symm
 have ap:=aq.goalT (vg':=.slice U _ uc) (goal':=Zx t.goal (pvr t r c) (t.goal.getD c pr0)) cv (hU.gr RtC.sta (by decide) a7) a1;have dg:=(au.ext RtC.sta (by decide) a3).gr RtC.sta (by decide) a7;have ca:=(bu.trans (GrN.ext (a8.trans a3))).trans a7;clear aq a2 ar au bc cv;obtain⟨R',cw,_,ev,_,a6,_⟩:=id ap.rows.el;simp only[Ys]at ev a6;injection ev with ev1 ev2 ev3
 subst ev1;refine ρ ?_;refine ld (ap.blk.at (i:=2) rfl) ?_;refine ρ ?_;refine ix r a6 a5 ?_;refine ρ ?_;refine stX1 MxC.sta ap.rows (Ys t r c).symm (show r<_ by rw[Ys];exact a5) (u:=.slice O row.length row.length) (a:=pvr t r c) ⟨_,rfl,dg⟩ (λg hg=>.inr (.inl hg)) rfl ?_;intro w9 cr c9;rw[Jmd t a5]at cr;have b2:=ap.rowsT cr c9;have c8:=ca.trans (GrN.by c9 λk Z=>.inr (.inl Z));obtain⟨S,sc,eS,e5,_⟩:=Jy b2.bas;subst eS;have ck:r<t.basis.length:=by rw[hp.basis];exact hr
 refine ρ ?_;refine ld (b2.blk.at (i:=4) rfl) ?_;refine ρ ?_;refine ix r (Rd.own b2.bas) ck ?_;refine ρ ?_;obtain⟨s1,s2,s3,s4,s5⟩:=Zp b2.bas (q:=r) (show r<t.basis.length*1 by omega) (.int .i64 (c:Int));refine sto (s1.trans (Qg ck)) s2 ?_;have cm:Qz (w9.setCell (adr S r) (.int .i64 (c:Int))) base (.slice S t.basis.length sc) (t.basis.set r c):=by
  rw[Qz,<-nzS,List.length_set];exact s3
 have cp:=b2.basT cm s5;refine ρ ?_;exact Vl ⟨rfl,_,cp,c8.trans (GrN.by s5 λk Z=>.inr (.inr Z))⟩
open Go.RowKit Pl Go.Wk
variable {cs:List Value}{b base c k n:Nat}{N:Nat->Prop}{p q qc qr:PR}{t:PT}{v vb vg vr:Value}{w:World}
def Yk: Option (Nat×PR)->Int
 | none=>-1
 | some p=>(p.1:Int)
theorem div_le'(hp:p.den≠0)(hq:q.den≠0)(h0:q.norm.num≠0): (PR.div p q).num<=p.num*q.den/\(PR.div p q).den<=p.den*q.num/\(PR.div p q).den≠0:=by
 unfold PR.div;rw[if_neg h0];obtain⟨j,i⟩:=mul_le' (p:=p) (q:=⟨q.norm.neg,q.norm.den,q.norm.num⟩) hp h0;exact⟨nL j (Nat.mul_le_mul_left _ (Vo hq)),Nat.le_trans i (Nat.mul_le_mul_left _ (Gv q)),(PR.mul_val (a:=p) (b:=⟨q.norm.neg,q.norm.den,q.norm.num⟩) hp h0).2⟩
def lvT(t:PT)(k:Nat)(q:PR): Option (Nat×PR)->Bool
 | none=>true
 | some p=>decide (PR.cmp q p.2<0∨(PR.cmp q p.2=0/\t.basis.getD k 0<t.basis.getD p.1 0))
theorem Qgj(hc:(t.rows.getD k []).getD c pr0=qc)(hr:(t.rows.getD k []).getD t.right pr0=qr)(hs:¬ qc.sign<=0): lvS t c (k+1)=if lvT t k (PR.div qr qc) (lvS t c k)=true then some (k,PR.div qr qc) else lvS t c k:=by
 conv=>lhs;unfold lvS
 simp only[hc,hr];rw[if_neg hs];cases lvS t c k with
 | none=>simp[lvT]
 | some p=>
  simp only[lvT,decide_eq_true_eq]
theorem Qwm(h:0<q.sign): q.num≠0:=λe=>by unfold PR.sign at h;rw[if_pos e]at h;omega
theorem Jnh(h:q.num≠0): q.norm.num≠0:=by
 unfold PR.norm;split
 .exact h
 have i:=Nat.gcd_dvd_left q.num q.den;obtain⟨k,j⟩:=i;show q.num / Nat.gcd q.num q.den≠0;have u:0<Nat.gcd q.num q.den:=Nat.gcd_pos_of_pos_left _ om;intro e;have y:=Nat.div_eq_zero_iff.1 e;have:=Nat.le_of_dvd om (Nat.gcd_dvd_left q.num q.den);omega
theorem NatX.box{t:Nat}(h:NatX N w v n)(hB:Blk w b t cs)(hc:∀ u∈cs,∀ z,u≠.int .u32 z): NatX (λk=>N k∨k=b) w v n:=by
 refine⟨h.1,λh0 y m c e i=>?_⟩;rcases i with i|i
 .exact h.2 h0 y m c e i
 obtain⟨A,O,j,_,_,G⟩:=h.1;rw[e]at j;injection j with j _ _
 subst j;have F:=G.cell (Xv (limbs_pos' h0));have J:adr (some y) 0=y:=by rw[adr,add_zero];rfl
 rw[J]at F;obtain⟨U,off,D⟩:=y;simp only at i;subst i;unfold Blk at hB;simp[World.cell?,hB]at F;grind
theorem RtX.bx{t:Nat}(h:RtX N w v q)(hB:Blk w b t cs)(hc:∀ u∈cs,∀ z,u≠.int .u32 z): RtX (λk=>N k∨k=b) w v q:=by
 obtain⟨x,y,e,j,i⟩:=h;exact⟨x,y,e,j.box hB hc,i.box hB hc⟩
theorem no32{b:Bool}{A B:Option Addr}{m m' c':Nat}: ∀ u∈[Value.bool b,.slice A m c,.slice B m' c'],∀ z,u≠.int .u32 z:=λu i z e=>by
 simp only[List.mem_cons,List.not_mem_nil,or_false]at i;rcases i with rfl|rfl|rfl<;>cases e
def SF.dv(N:Nat->Prop)(q:PR): SF:=⟨λv w=>∃ x,v=.tuple #[x,.int .i64 0]/\RtX N w x q,λ⟨x,e,h⟩ hx=>⟨x,e,h.ext hx⟩⟩
def SF.rb(s:Nat): SF:=⟨λv w=>∃ b,v=.pointer (some ⟨b,0,none⟩)/\s<=b/\Blk w b 84 [.bool false,.slice none 0 0,.slice none 0 0],λ⟨b,e,h,hb⟩ hx=>⟨b,e,h,hb.ext hx⟩⟩
theorem Qhc(hT:TbV w base b vr vg vb t)(hp:POk t)(hs:TSl t)(hc:c<t.n+t.m)(hn:t.n<=100)(hm:t.m<=100):
  Ret Tryz.prog 129 [.pointer (some ⟨b,0,none⟩),.int .i64 (c:Int)] w λu w'=>u=.int .i64 (Yk (lvS t c t.m))/\Ext w w':=by
 have cv:=hT.lt;have cm:t.rows.length=t.m:=hp.rows;have F:∀ i (hi:i<t.rows.length),t.rows[i].length=t.n+t.m+2:=λi hi=>by
  have:=(hp.row i (by rw[<-hp.rows];exact hi)).1;rwa [List.getD,List.getElem?_eq_getElem hi]at this
 refine Jz Tryz.func129 Tryz.ntmps129 rfl kr rfl ?_;obtain⟨R,rc,_,rfl,ck,cc,cb⟩:=id hT.rows.el;refine ρ ?_;refine alc Vq ?_;intro w1 b6 b3 c4 bs;have ca:=hT.ext b3;refine ρ ?_;refine ld (ca.blk.at (i:=2) rfl) ?_;refine ρ ?_;refine Qw (fun (k:Nat) (ls:List Value)=>[(0,.pointer (some ⟨b,0,none⟩)),(1,.int .i64 (c:Int)),(5,.int .i64 (Yk (lvS t c k))),(6,.pointer (some ⟨b6,0,none⟩)),(15,.slice R t.rows.length rc),(16,.int .i64 (t.rows.length:Int)),(17,.int .i64 (k:Int))])
  (λk ls w'=>k<=t.m/\Ext w w'/\w1.heap.size<=w'.heap.size/\Blk w' b6 84 ls/\ls.length=3/\(∀ u∈ls,u.oneCell'=true)/\∀ p,lvS t c k=some p->RtC (Ol w1) w' ls p.2/\p.2.num<=86400/\p.2.den<=86400/\p.1<t.m) (λk _=>t.m-k) 0 [.bool false,.slice none 0 0,.slice none 0 0] sB ⟨Nat.zero_le _,b3,Nat.le_refl _,bs,rfl,Qv rfl rfl rfl,λp h=>by cases h⟩ ?_
 rintro k ls w2 ⟨hk,a8,ak,ax,b2,ba,hI⟩;have l6:=bs.lt;refine ρ ?_;refine ci (λh=>?_) (λh=>?_)
 .have a1:k<t.rows.length:=by have:=oT h;omega
  clear h;have b8:k<t.m:=om
  have bn:=cc.ext a8;obtain⟨ce,cp,⟨vk,rfl,ch⟩,c2⟩:=cb k a1;obtain⟨K,kc,_,rfl,co,_,cg,_,bo⟩:=id ch.el;rw[F k a1]at *;have bg:w2.cell? (adr R k)=some (.slice K (t.n+t.m+2) kc):=by
   have:=Qp a8 (c2 0 _ rfl);rwa [Nat.mul_one,add_zero]at this
  have av:=cg.ext a8;obtain⟨ce,_,bd,bf⟩:=bo c (by rw[F k a1];omega);obtain⟨cr,_,b5,bz⟩:=bo (t.n+t.m+1) (by rw[F k a1];omega);have ec:t.rows[k][c]'(by rw[F k a1];omega)=(t.rows.getD k []).getD c pr0:=by simp[List.getD,List.getElem?_eq_getElem a1,List.getElem?_eq_getElem (show c<t.rows[k].length by rw[F k a1];omega)]
  have er:t.rows[k][t.n+t.m+1]'(by rw[F k a1];omega)=(t.rows.getD k []).getD t.right pr0:=by simp[PT.right,List.getD,List.getElem?_eq_getElem a1,List.getElem?_eq_getElem (show t.n+t.m+1<t.rows[k].length by rw[F k a1];omega)]
  have ad:Sl ((t.rows.getD k []).getD c pr0):=by rw[<-ec];exact hs.row _ (List.getElem_mem _) _ (List.getElem_mem _)
  have aj:Sl ((t.rows.getD k []).getD t.right pr0):=by rw[<-er];exact hs.row _ (List.getElem_mem _) _ (List.getElem_mem _)
  rw[ec]at bd;rw[er]at b5;generalize hqc:(t.rows.getD k []).getD c pr0=qc at *
  generalize hqr:(t.rows.getD k []).getD t.right pr0=qr at *
  obtain⟨E1,x1,E2,x2,rfl,bh⟩:=bd.sl;obtain⟨F1,y1,F2,y2,rfl,c0⟩:=b5.sl;refine ρ ?_;refine ix k bn a1 ?_;refine ρ ?_;refine ld bg ?_;refine ρ ?_;refine ixq 3 c av om ?_;refine ρ ?_;refine lds (λj u hu=>Qp a8 (bf j u hu)) ?_;refine ρ ?_;refine cl (Uf (bh.ext a8) ad.len) ?_;rintro _ w3 ⟨rfl,Z⟩;have aq:=a8.trans Z;refine ρ ?_;refine ci (λh=>?_) (λh=>?_)
  .have ay:qc.sign<=0:=oT h;have e:lvS t c (k+1)=lvS t c k:=by
    conv=>lhs;unfold lvS
    simp only[hqc];rw[if_pos ay]
   refine ρ ?_;refine Ja (k+1) ls (by rw[e];exact sO) ⟨om,aq,Nat.le_trans ak Z.size,ax.ext Z,b2,ba,λp a2=>?_⟩ om;rw[e]at a2;obtain⟨h1,h2⟩:=hI p a2;exact⟨RtC.sta.gr h1 (GrN.ext Z),h2⟩
  have ay:¬ qc.sign<=0:=oF h;have a4:Ext w3 w3.drew:=(Ext.refl w3).drew;have a3:=aq.trans a4;have au:=av.ext (Z.trans a4);have b7:qc.norm.num≠0:=Jnh (Qwm om);have f1:=aj.n;have f2:=aj.d;have f3:=ad.n;have f4:=ad.d;have f5:qr.den*qc.num<=120*720:=Nat.mul_le_mul f2 f3;have f6:qr.num*qc.den<=720*120:=Nat.mul_le_mul f1 f4;obtain⟨g1,g2,g3⟩:=div_le' aj.d0 ad.d0 b7;have c8:=hT.ext a3;have az:w1.heap.size<=w3.drew.heap.size:=nL ak (Z.trans a4).size;refine ρ ?_;refine drH (λi=>i == 14 || i == 15) ?_;refine Uj (fuel':=10) 17 [(0,0),(0,1),(0,5),(0,6),(0,7),(0,8)] #[true,true,false,false,false,true,true,true,true,false,false,false,false,false,false,false] kr kr rfl ?_;refine ρd ?_;refine Qr 3 c au om ?_;refine ρd ?_;refine Qq (λj u hu=>Qp a3 (bf j u hu)) ?_;refine ρd ?_;refine Uq ?_;refine hcut 1 (lst 16 15) (fun (y:Nat×List Value)=>[(40,.int .i64 0),(9,.pointer (some ⟨y.1,0,none⟩)),(0,.pointer (some ⟨b,0,none⟩)),(1,.int .i64 (c:Int)),(5,.int .i64 (Yk (lvS t c k))),(6,.pointer (some ⟨b6,0,none⟩)),(7,.int .i64 (k:Int)),(15,.slice R t.rows.length rc),(16,.int .i64 (t.rows.length:Int)),(17,.int .i64 (k:Int))])
   (λy W=>Ext w3.drew W/\w3.drew.heap.size<=y.1/\Blk W y.1 84 y.2/\y.2.length=3/\RtC (λk=>Ol w1 k∨k=y.1) W y.2 (PR.div qr qc)) ?_ ?_
  rotate_left
  .intro rest;have bt:∀ {v4:World} {x:Value} {b9:Nat},Ext w3.drew v4->RtX (Ol w1) v4 x (PR.div qr qc)->w3.drew.heap.size<=b9->Blk v4 b9 84 [.bool false,.slice none 0 0,.slice none 0 0]->∃ cs:List Value,x=.agg cs.toArray/\cs.length=3/\(∀ u∈cs,u.oneCell'=true)/\∀ {v5:World},Blk v5 b9 84 cs->v4.grownBy v5 (some b9)->RtC (λk=>Ol w1 k∨k=b9) v5 cs (PR.div qr qc):=fun {v4 x b9} hx hX hb hB=>by
    obtain⟨A',c',B',d',rfl,c6,c5⟩:=(hX.bx hB no32).sl;refine⟨_,rfl,rfl,Qv rfl rfl rfl,fun {v5} hB5 hg=>?_⟩;have bc:GrN (λk=>Ol w1 k∨k=b9) v4 v5:=GrN.by hg λk ek=>by injection ek with ek;exact .inr ek.symm
    exact⟨_,_,rfl,c6.gr bc,c5.gr bc⟩
   refine hmkSq 17 12 2 _ #[true,true,true,true,true,true,true,true,true,true,true,true,true,true,false,false] [2,3,4,9,10,11,12,13] [31,32,33,38,28,39,40,9] [SF.eq (.int .i64 ((t.n+t.m+1:Nat):Int)),SF.eq (.pointer (some (adr K ((t.n+t.m+1)*3)))),SF.eq (.agg #[.bool qr.neg,.slice F1 (Jj qr.num).length y1,.slice F2 (Jj qr.den).length y2]),SF.dv (Ol w1) (PR.div qr qc),SF.dv (Ol w1) (PR.div qr qc),SF.rx (Ol w1) (PR.div qr qc),SF.eq (.int .i64 0),SF.rb w3.drew.heap.size] kr (by rfl) ?_ ?_ ?_
   .refine gsc (λvs v1 D hd=>?_) ?_
    .simp only[slM];refine cl (Gt (c8.ext D).blk rfl rfl om om) ?_;rintro _ v2 ⟨rfl,O⟩;exact Qk (Xk O rfl)
    refine gsc (λvs v1 D hd=>?_) ?_
    .have e0:vs 0=_:=hd 0;simp only[slM,e0];refine ixq 3 (t.n+t.m+1) (au.ext D) om ?_;exact Qk (Xk (Ext.refl _) rfl)
    refine gsc (λvs v1 D hd=>?_) ?_
    .have e0:vs 1=_:=hd 1;simp only[slM,e0];refine lds (λj u hu=>Qp (a3.trans D) (bz j u hu)) ?_;exact Qk (Xk (Ext.refl _) rfl)
    refine gsc (λvs v1 D hd=>?_) ?_
    .have e0:vs 2=_:=hd 2;simp only[slM,e0];refine cl (Jlz (c0.ext (a3.trans D)) (bh.ext (a3.trans D)) b7 aj.d0 ad.d0 om om om om om) ?_;rintro _ v2 ⟨⟨x,rfl,hX⟩,O⟩;exact Qk (Xk O ⟨x,rfl,hX.old λj hj=>.inl (nM hj (nL az D.size))⟩)
    refine gsc (λvs v1 D hd=>?_) ?_
    .obtain⟨x,e0,hX⟩:=hd 3;simp only[slM,e0];refine ρ ?_;exact Xk (Ext.refl _) ⟨x,rfl,hX⟩
    refine gsc (λvs v1 D hd=>?_) ?_
    .obtain⟨x,e0,hX⟩:=hd 4;simp only[slM,e0];refine ρ ?_;exact Xk (Ext.refl _) hX
    refine gsc (λvs v1 D hd=>?_) ?_
    .obtain⟨x,e0,hX⟩:=hd 4;simp only[slM,e0];refine ρ ?_;exact Xk (Ext.refl _) rfl
    refine gsc (λvs v1 D hd=>?_) gse
    simp only[slM];refine alc Vq ?_;intro v2 b9 O G J;exact Qk (Xk O ⟨b9,rfl,Nat.le_trans D.size G,J⟩)
   .intro vs v1 D hd;obtain⟨b9,e7,G,J⟩:=hd 7;have hX:RtX (Ol w1) v1 (vs 5) (PR.div qr qc):=hd 5;have e6:vs 6=_:=hd 6;obtain⟨cs,e5,hl,h1,aa⟩:=bt D hX G J;simp only[slM,e7,e5,e6];refine Zs 14 kr rfl rfl ?_;refine stb J ?_ h1 (by simp[hl]) rfl rfl (by rw[hl]);intro v2 a7 ae O;refine Qk (Xq (λh=>by cases h) ?_);refine hlist (listed':=lst 16 15) kr ?_;exact rest (b9,cs) _ _ ⟨O _ D G,G,a7,hl,aa a7 ae⟩ sB
   intro _ vs v1 D hd;obtain⟨b9,e7,G,J⟩:=hd 7;have hX:RtX (Ol w1) v1 (vs 5) (PR.div qr qc):=hd 5;obtain⟨x4,e4,cu⟩:=hd 4;obtain⟨cs,e5,hl,h1,aa⟩:=bt D hX G J;simp only[slM,e7,e5,e4];refine Jxl 12 14 kr rfl rfl rfl ?_ ?_
   .refine ρ ?_;refine Xq (λ_=>Ext.refl _) ?_;refine Zs 14 kr rfl rfl ?_;refine stb J ?_ h1 (by simp[hl]) rfl rfl (by rw[hl]);intro v2 a7 ae O;refine Qk (Xq (λh=>by cases h) ?_);refine hlist (listed':=lst 16 15) kr ?_;exact rest (b9,cs) _ _ ⟨O _ D G,G,a7,hl,aa a7 ae⟩ sB
   refine stb J ?_ h1 (by simp[hl]) rfl rfl (by rw[hl]);intro v2 a7 ae O;refine Qk (Xq (λh=>by cases h) ?_);refine Zs 12 kr rfl rfl ?_;refine ρ ?_;refine Xq (λ_=>Ext.refl _) ?_;refine hlist (listed':=lst 16 15) kr ?_;exact rest (b9,cs) _ _ ⟨O _ D G,G,a7,hl,aa a7 ae⟩ sB
  rintro⟨b9,cs⟩ w4 ⟨a5,G,J,be,bp⟩;simp only at G J be bp;refine Zs 15 kr rfl rfl ?_;refine ρ ?_;refine Xq (λ_=>Ext.refl _) ?_;refine Xg kr ?_;have af:Blk w4 b6 _ ls:=ax.ext ((Z.trans a4).trans a5);have ap:=a3.trans a5;have c7:=hT.ext ap;obtain⟨A9,c9,D9,d9,rfl,bm⟩:=bp.sl;have cn:b6<w4.heap.size:=af.lt;refine ρ ?_;refine Xp (fun (o:Int)=>[(11,.int .i64 o),(9,.pointer (some ⟨b9,0,none⟩)),(0,.pointer (some ⟨b,0,none⟩)),(1,.int .i64 (c:Int)),(5,.int .i64 (Yk (lvS t c k))),(6,.pointer (some ⟨b6,0,none⟩)),(7,.int .i64 (k:Int)),(15,.slice R t.rows.length rc),(16,.int .i64 (t.rows.length:Int)),(17,.int .i64 (k:Int))])
   (λo W=>Ext w4 W/\o=match lvS t c k with|none=>-1|some p=>PR.cmp (PR.div qr qc) p.2) ?_ ?_
  .refine ci (λh=>?_) (λh=>?_)
   .have h1:0<=Yk (lvS t c k):=oT h;obtain⟨p,a6⟩:∃ p,lvS t c k=some p:=by
     cases e:lvS t c k with
     | none=>rw[e]at h1;simp[Yk]at h1
     | some p=>exact⟨p,rfl⟩
    obtain⟨i1,i2,i3,i4⟩:=hI p a6;obtain⟨P1,p1,P2,p2,rfl,cd⟩:=i1.sl;refine ρ ?_;refine ldW J ?_;refine ρ ?_;refine ldW af ?_;refine ρ ?_;refine cl (Qyv bm (cd.ext ((Z.trans a4).trans a5)) (λj hj=>?_) (λj hj=>nM hj (nL az a5.size)) om om om om) ?_
    .rcases hj with hj|hj
     .exact nM hj (nL az a5.size)
     rw[hj];exact J.lt
    rintro _ w5 ⟨rfl,ai⟩;refine ρ ?_;exact Je _ sB ⟨ai,by rw[a6]⟩
   have h1:¬ 0<=Yk (lvS t c k):=oF h;have e:lvS t c k=none:=by
    cases e:lvS t c k with
    | none=>rfl
    | some p=>rw[e]at h1;simp[Yk]at h1
   refine ρ ?_;exact Je _ sB ⟨Ext.refl _,by rw[e]⟩
  rintro o w5 ⟨ai,ho⟩;have ah:Ext w5 w5.drew:=(Ext.refl w5).drew;have am:=c7.ext (ai.trans ah);obtain⟨S,sc,eS,cj,_⟩:=Jy am.bas;have an:=Rd.own (show w5.drew.ownsRow base 3 1 (.slice S t.basis.length sc) t.basis.length (Jt (nz t.basis)) by rw[<-eS];exact am.bas);have cq:t.basis.length=t.m:=hp.basis;subst eS;refine ρ ?_;refine Xp (fun (tk:Bool)=>[(68,.bool tk),(9,.pointer (some ⟨b9,0,none⟩)),(0,.pointer (some ⟨b,0,none⟩)),(1,.int .i64 (c:Int)),(5,.int .i64 (Yk (lvS t c k))),(6,.pointer (some ⟨b6,0,none⟩)),(7,.int .i64 (k:Int)),(15,.slice R t.rows.length rc),(16,.int .i64 (t.rows.length:Int)),(17,.int .i64 (k:Int))])
   (λtk W=>Ext w5 W/\tk=lvT t k (PR.div qr qc) (lvS t c k)) ?_ ?_
  .refine dr [(0,0),(0,1),(0,2),(0,3),(0,4),(0,5),(0,6),(0,7),(0,8),(0,9),(0,10),(0,11),(0,12),(0,13),(0,14),(0,15),(0,16),(0,17),(0,18),(0,19),(0,20),(0,21),(0,22)] kr ?_;refine ρd ?_;refine dki 48 (λh=>?_) (λh=>?_)
   .have h1:o<0:=oT h;refine ρd ?_;refine Je true sB ⟨ah,?_⟩;cases e:lvS t c k with
    | none=>rfl
    | some p=>rw[e]at ho;simp only at ho;simp[lvT];left;omega
   have h1:¬ o<0:=oF h;obtain⟨p,a6⟩:∃ p,lvS t c k=some p:=by
    cases e:lvS t c k with
    | none=>rw[e]at ho;simp only at ho;omega
    | some p=>exact⟨p,rfl⟩
   obtain⟨_,_,_,i4⟩:=hI p a6;rw[a6]at ho;simp only at ho;have c3:Yk (lvS t c k)=(p.1:Int):=by rw[a6];rfl
   refine ρd ?_;refine dki 51 (λh=>?_) (λh=>?_)
   .have h2:o=0:=by simpa using h
    refine ρd ?_;refine dld (am.blk.at (i:=4) rfl) ?_;refine ρd ?_;have bj:k<t.basis.length:=om
    have bi:p.1<t.basis.length:=om
    refine dix k an bj ?_;refine ρd ?_;refine dld (an.cell (Qg bj)) ?_;refine ρd ?_;refine dld (am.blk.at (i:=4) rfl) ?_;refine ρd ?_;refine dkv 63 (u:=.int .i64 (p.1:Int)) (congrArg (Value.int .i64) c3) ?_;refine dix p.1 an bi ?_;refine ρd ?_;refine dld (an.cell (Qg bi)) ?_;refine ρd ?_;refine Je (decide (((t.basis.getD k 0:Nat):Int)<((t.basis.getD p.1 0:Nat):Int))) sB ⟨ah,?_⟩;rw[a6];simp only[lvT];rw[decide_eq_decide];omega
   have h2:¬ o=0:=by simpa using h
   refine ρd ?_;refine Je false sB ⟨ah,?_⟩;rw[a6];simp only[lvT];symm
   rw[decide_eq_false_iff_not];omega
  rintro tk w6 ⟨bv,bw⟩;have a9:=Qgj hqc hqr ay;rw[<-bw]at a9;have U:=ai.trans bv;have ao:=ap.trans U;have aw:=af.ext U;have bq:=J.ext U;have bl:=bm.ext U;refine ρ ?_;refine ci (λh=>?_) (λh=>?_)
  .rw[if_pos h]at a9;have ac:Ext w6 w6.drew:=(Ext.refl w6).drew;refine ρ ?_;refine dr [(0,0),(0,1),(0,2),(2,3)] kr ?_;refine ρd ?_;refine Qq (λj u hu=>(bq.ext ac).at hu) ?_;refine ρd ?_;refine Jg ?_;refine stb (cs':=[.bool (PR.div qr qc).neg,.slice A9 _ c9,.slice D9 _ d9]) (aw.ext ac) ?_ (Qv rfl rfl rfl) (by rw[b2];rfl);intro w7 br bb bu;have b4:Ext w w7:=bu w (ao.trans ac) c4;obtain⟨_,_,ee,e1,e2⟩:=(bl.ext ac);injection ee with ee
   injection ee with ee
   injection ee with _ ee
   injection ee with ea ee
   injection ee with eb _
   subst ea;subst eb;have ar:GrN (λk=>Ol w1 k∨k=b9) w6.drew w7:=GrN.by bb λj ej=>by injection ej with ej;subst ej;exact .inl l6
   refine ρ ?_;refine Ja (k+1) [.bool (PR.div qr qc).neg,.slice A9 _ c9,.slice D9 _ d9] (by rw[a9];exact sO) ⟨om,b4,Nat.le_trans ak (nL (Z.trans a4).size (nL a5.size (nL U.size (nL ac.size bb.size)))),br,rfl,Qv rfl rfl rfl,λp a2=>?_⟩ om;rw[a9]at a2;injection a2 with a2
   subst a2;exact⟨RtC.sta.old ⟨_,_,rfl,e1.gr ar,e2.gr ar⟩ λj hj=>.inl (.inl hj),by show(PR.div qr qc).num<=_;omega,by show(PR.div qr qc).den<=_;omega,b8⟩
  rw[if_neg (by rw[h];decide)]at a9;refine ρ ?_;refine Ja (k+1) ls (by rw[a9];exact sO) ⟨om,ao,Nat.le_trans ak (nL (Z.trans a4).size (nL a5.size U.size)),aw,b2,ba,λp a2=>?_⟩ om;rw[a9]at a2;obtain⟨h1,h2⟩:=hI p a2;exact⟨RtC.sta.gr h1 (GrN.ext (((Z.trans a4).trans a5).trans U)),h2⟩
 have c1:k=t.m:=by have:=oF h;omega
 subst c1;refine ρ ?_;exact Jq ⟨rfl,a8⟩
end Go.Proofs.YtebiphhfkdbpfaaGreat
namespace Go.Wk
variable {al:AL}{Q:Exit->Act->World->Prop}{l n:Nat}{P:Program}{w:World}
theorem wlab(h:QX n Q .normal al w): WC P n (.label l) Q al w:=λa i=>wp_label (h a i)
theorem Qqv{c:Code}(h:WC P n c (Exit.noGoto Q) al w): WC P n (.scope c) Q al w:=λa i=>wp_scope_straight (h a i)
theorem xret(h:QX n Q .ret al w): QX n (Exit.noGoto Q) .ret al w:=h
end Go.Wk
namespace Go.Proofs.YtebiphhfkdbpfaaGreat
open Go.RowKit Pl Go.Wk Bl
attribute [local irreducible] WC WL QX WD WDB WP WN WG WH
variable {cols j m n:Nat}{t t':PT}{S T0:QT}
theorem Qmb(hj:j<cols)(h:(t.goal.getD j pr0).sign<0)(h0:∀ i,i<j->¬ (t.goal.getD i pr0).sign<0): t.enter cols=some j:=by
 unfold PT.enter;induction cols with
 | zero=>omega
 | succ n ih=>
  rw[List.range_succ,List.find?_append];rcases Nat.lt_or_ge j n with h1|h1
  .rw[ih h1];rfl
  have e:j=n:=om
  subst e;have:(List.range j).find? (λj=>decide ((t.goal.getD j pr0).sign<0))=none:=by
   rw[List.find?_eq_none];intro i hi;simpa using h0 i (List.mem_range.1 hi)
  rw[this];simp only[List.find?_cons,h,decide_true];rfl
theorem Qmc(h0:∀ i,i<cols->¬ (t.goal.getD i pr0).sign<0): t.enter cols=none:=by
 unfold PT.enter;rw[List.find?_eq_none];intro i hi;simpa using h0 i (List.mem_range.1 hi)
theorem Qzg{q:PR}(h:q.val≠0): q.num≠0:=λe=>h (by
 unfold PR.val;rw[e];have:((0:Nat):Rat)=0:=rfl;rw[this];split<;>grind)
theorem Qzq(h:PSt n m T0 t S)(h0:∀ i j,i<m->j<n+m->isI (T0.a i j) 1)(h1:∀ i,i<m->isI (T0.b i) 1)(h2:∀ j,j<n+m->isI (T0.g j) 1)(hz:T0.z=0)(hnm:0<n+m)(hm:m<=5): TSl t:=by
 obtain⟨hr,hg⟩:=h.small h0 h1 h2 hz hnm;have a2:fct (m+1)<=720:=nL (Jxp (show m+1<=6 by omega)) (by decide);have a1:fct m<=120:=nL (Jxp hm) (by decide);have hn:=h.en;have G:=h.em;have D:=h.agr.ok;refine⟨λl hl q F=>?_,λq F=>?_⟩
 .obtain⟨i,hi,rfl⟩:=List.getElem_of_mem hl;have O:i<m:=by rw[<-G,<-D.rows];exact hi
  obtain⟨y,Z⟩:=D.row i om;have e1:t.rows.getD i []=t.rows[i]:=by simp[List.getD,List.getElem?_eq_getElem hi]
  obtain⟨j,J,rfl⟩:=List.getElem_of_mem F;have e2:t.rows[i].getD j pr0=t.rows[i][j]:=by simp[List.getD,List.getElem?_eq_getElem J]
  have U:=hr i j O (by rw[e1]at y;rw[PT.right]at y;omega);have u:=Z j (by rw[e1]at y;omega);rw[e1,e2]at U u;exact⟨u,om,om⟩
 obtain⟨y,Z⟩:=D.goal;obtain⟨j,J,rfl⟩:=List.getElem_of_mem F;have e2:t.goal.getD j pr0=t.goal[j]:=by simp[List.getD,List.getElem?_eq_getElem J]
 have U:=hg j (by rw[PT.right]at y;omega);have u:=Z j om;rw[e2]at U u;exact⟨u,om,om⟩
theorem Qft{w:World}{base b fuel:Nat}{vr vg vb:Value}(hT:TbV w base b vr vg vb t)(hst:PSt n m T0 t S)(hsl:∀ t S,PSt n m T0 t S->TSl t)(hB:Bnd m (n+m) T0)(hmx:PT.maxim (n+m) fuel t=some t')(hn:n<=100)(hm:m<=100)(hbase:base<=w.heap.size):
  Ret Tryz.prog 86 [.pointer (some ⟨b,0,none⟩),.int .i64 ((n+m:Nat):Int)] w λu w'=>u=.tuple #[.int .i64 0,.bool true]/\∃ vg',TbV w' base b vr vg' vb t'/\GrN (TN b vr vb) w w':=by
 refine Jz Tryz.func86 Tryz.ntmps86 rfl kr rfl ?_;refine ρ ?_;refine Qqv ?_;refine wseq ?_;refine wlab ?_;refine ρ ?_;refine Qw (fun (k:Nat) (t:PT)=>[(0,.pointer (some ⟨b,0,none⟩)),(1,.int .i64 ((n+m:Nat):Int))])
  (λk t w'=>PT.maxim (n+m) k t=some t'/\(∃ S,PSt n m T0 t S)/\(∃ vg',TbV w' base b vr vg' vb t)/\GrN (TN b vr vb) w w') (λk _=>k) fuel t ?_ ⟨hmx,⟨S,hst⟩,⟨vg,hT⟩,GrN.refl _ _⟩ ?_
 .exact sB
 rintro k t w1 ⟨hmx,⟨S,hst⟩,⟨vg,hT⟩,a2⟩;have hs:=hsl t S hst;have ok:=hst.agr.ok;have ao:=hst.en;have ap:=hst.em;obtain⟨k,rfl⟩:∃ j,k=j+1:=by
  cases k with
  | zero=>cases hmx
  | succ j=>exact⟨j,rfl⟩
 have an:t.goal.length=n+m+2:=by have:=ok.goal.1;rw[PT.right]at this;omega
 refine ρ ?_;refine Jl (fun (j:Nat)=>[(0,.pointer (some ⟨b,0,none⟩)),(1,.int .i64 ((n+m:Nat):Int)),(8,.int .i64 ((n+m:Nat):Int)),(9,.int .i64 (j:Int))])
  (λj w'=>j<=n+m/\Ext w1 w'/\∀ i,i<j->¬ (t.goal.getD i pr0).sign<0) (λj=>n+m-j) 0 sB ⟨Nat.zero_le _,Ext.refl _,λi hi=>absurd hi om⟩ ?_
 rintro j w2 ⟨hj,D,a1⟩;have J:=hT.ext D;refine ρ ?_;refine ci (λh=>?_) (λh=>?_)
 .have aa:j<n+m:=by have:=oT h;omega
  clear h;obtain⟨G,gc,_,rfl,_,_,ak,_,aj⟩:=id J.goal.el;obtain⟨ce,_,a6,af⟩:=aj j om;have e1:t.goal[j]'(by omega)=t.goal.getD j pr0:=by simp[List.getD,List.getElem?_eq_getElem (show j<t.goal.length by omega)]
  have a9:Sl (t.goal.getD j pr0):=by rw[<-e1];exact hs.goal _ (List.getElem_mem _)
  simp only[e1]at a6;obtain⟨E1,x1,E2,x2,rfl,ah⟩:=a6.sl;refine ρ ?_;refine ld (J.blk.at (i:=3) rfl) ?_;refine ρ ?_;refine ixq 3 j ak om ?_;refine ρ ?_;refine lds (λi u hu=>af i u hu) ?_;refine ρ ?_;refine cl (Uf ah a9.len) ?_;rintro _ w3 ⟨rfl,F⟩;have a8:=J.ext F;refine ρ ?_;refine ci (λh=>?_) (λh=>?_)
  .have ad:¬ (t.goal.getD j pr0).sign<0:=by have:=oT h;omega
   refine ρ ?_;exact Jf (j+1) sO ⟨om,D.trans F,λi hi=>by
    rcases Nat.lt_or_ge i j with h1|h1
    .exact a1 i h1
    have:i=j:=om
    subst this;exact ad⟩ om
  have a3:(t.goal.getD j pr0).sign<0:=by have:=oF h;omega
  have U:=Qmb aa a3 a1;obtain⟨_,r,y,am,a7,O⟩:=hst.next hB U;have a5:Yk (lvS t j t.m)=(r:Int):=by
   unfold PT.leaving at y;rw[ok.rows]at y;cases e:lvS t j t.m with
   | none=>rw[e]at y;cases y
   | some p=>rw[e]at y;simp only[Option.map_some,Option.some.injEq]at y;simp[Yk,y]
  have a4:PT.maxim (n+m) k (t.pivot r j)=some t':=by
   rw[PT.maxim,U]at hmx;simp only[y]at hmx;exact hmx
  refine ρ ?_;refine cl (Qhc (c:=j) a8 ok hs om om om) ?_;rintro _ w4 ⟨rfl,Z⟩;rw[a5];refine ρ ?_;refine cl (Qcg (r:=r) (c:=j) (a8.ext Z) ok hs (hsl _ _ O) om om (Jnh (Qzg ?_)) om om (nL hbase (nL a2.size ((D.trans F).trans Z).size))) ?_
  .rw[hst.agr.a r j om om];have:=a7.pos;intro e;rw[e]at this;exact absurd this (by decide)
  rintro _ w5 ⟨rfl,vg',ai,ae⟩;refine ρ ?_;exact Ja k (t.pivot r j) sB ⟨a4,⟨_,O⟩,⟨vg',ai⟩,(a2.trans (GrN.ext ((D.trans F).trans Z))).trans ae⟩ om
 have ac:j=n+m:=by have:=oF h;omega
 subst ac;rw[PT.maxim,Qmc a1]at hmx;injection hmx with hmx
 subst hmx;refine ρ ?_;refine xret ?_;exact Xx ⟨rfl,vg,J,a2.trans (GrN.ext D)⟩
open Go.RowKit Pl Go.Wk Bl
variable {A rows':List (List PR)}{i n:Nat}
theorem Qrk(a b:Int)(w:World): (Instr.build 168 #[(0,.int .i64 a),(1,.int .i64 b)]).run Tryz.prog w=.ok (.agg #[.int .i64 a,.int .i64 b,.slice none 0 0,.slice none 0 0,.slice none 0 0]) w:=kr
theorem Qjj(A:Option Addr)(m c:Nat)(w:World): (Instr.buildSlice 120 1 #[(0,.slice A m c)]).run Tryz.prog w=.ok (.slice (some ⟨w.heap.size,0,none⟩) 1 1) (w.alloc (.cells [.slice A m c].toArray 80)):=kr
theorem Gh(z:Int)(w:World): (Instr.buildSlice 28 1 #[(0,.int .i64 z)]).run Tryz.prog w=.ok (.slice (some ⟨w.heap.size,0,none⟩) 1 1) (w.alloc (.cells [.int .i64 z].toArray 3)):=kr
theorem GX.nil{α:Type}{sz:Nat}{Φ:(Nat->Prop)->World->List Value->α->Prop}(N:Nat->Prop)(w:World): GX sz Φ N w (.slice none 0 0) ([]:List α):=⟨⟨[],none,0,rfl,rfl,Nat.le_refl _,by simp,Rd.nil,λp i=>by cases i⟩,λh=>absurd rfl h⟩
theorem Qgq{α:Type}(d:α){l k:List α}(h:l.length=k.length)(he:∀ i,i<l.length->l.getD i d=k.getD i d): l=k:=by
 refine List.ext_getElem h λi j u=>?_;have:=he i j;simpa [List.getD,List.getElem?_eq_getElem j,List.getElem?_eq_getElem u] using this
theorem Qdp(hA:Bin n A)(hi:i<A.length): (((mix (A.getD i []++List.replicate (A.length+2) pr0) (List.replicate (n+A.length+2) pr0) n).set (n+i) (PR.int 1)).set (n+A.length) (PR.int (-1))).set (n+A.length+1) (PR.int 1)=(PT.ofP n A).rows.getD i []:=by
 have F:=(hA i hi).1;have D:((PT.ofP n A).rows.getD i []).length=n+A.length+2:=by
  rw[Jxc i hi,List.length_append,List.length_append,F,List.length_map,List.length_range];rfl
 have y:=λj=>Ia hA.rok i j hi;generalize A.getD i []=a at *
 have u:(mix (a++List.replicate (A.length+2) pr0) (List.replicate (n+A.length+2) pr0) n).length=n+A.length+2:=by
  rw[Us (by simp[F];omega) (by simp;omega)];simp
 refine Qgq pr0 (by rw[List.length_set,List.length_set,List.length_set,u,D]) λj O=>?_;rw[List.length_set,List.length_set,List.length_set,u]at O;rw[y j];have G:∀(l:List PR) (k:Nat) (x:PR),k<l.length->(l.set k x).getD j pr0=if k=j then x else l.getD j pr0:=λl k x J=>by
  by_cases h:k=j
  .subst h;simp[List.getD,J]
  simp[List.getD,List.getElem?_set_ne h,h]
 rw[G _ _ _ (by rw[List.length_set,List.length_set,u];omega),G _ _ _ (by rw[List.length_set,u];omega),G _ _ _ (by rw[u];omega)];have U:(mix (a++List.replicate (A.length+2) pr0) (List.replicate (n+A.length+2) pr0) n).getD j pr0=if j<n then(a).getD j pr0 else pr0:=by
  unfold mix;rw[Jxm,List.length_take,List.length_append,F,List.length_replicate,Nat.min_eq_left om];by_cases h:j<n
  .rw[if_pos h,if_pos h];simp only[List.getD_eq_getElem?_getD,List.getElem?_take,h,if_true,List.getElem?_append_left (show j<a.length by omega)]
  rw[if_neg h,if_neg h];simp only[List.getD_eq_getElem?_getD,List.getElem?_drop,List.getElem?_replicate];split<;>rfl
 rw[U];by_cases h1:j<n
 .rw[if_neg om,if_neg om,if_neg om,if_pos h1,if_pos h1]
 rw[if_neg h1,if_neg h1];by_cases h2:j<n+A.length
 .rw[if_neg om,if_neg om,if_pos h2];by_cases h3:n+i=j
  .rw[if_pos h3,if_pos om]
  rw[if_neg h3,if_neg om]
 rw[if_neg h2];by_cases h3:j=n+A.length
 .rw[if_neg om,if_pos h3.symm,if_pos h3]
 rw[if_pos om,if_neg h3,if_pos om]
section
variable {w w1 w2:World} {base b:Nat} {vr vr' vg vb vb':Value} {t:PT}
theorem TbV.addRow(hT:TbV w base b vr vg vb t)(ho:OX 80 1 MxC (λk=>TN b vr vb k∨w.heap.size<=k) w1 base vr' rows')(hg:w.grownBy w1 vr.ownBlock)(hn:∀ g,vr'.ownBlock=some g->vr.ownBlock=some g∨w.heap.size<=g)(hB:Blk w2 b 168 [.int .i64 (t.n:Int),.int .i64 (t.m:Int),vr',vg,vb])(hg2:w1.grownBy w2 (some b)): TbV w2 base b vr' vg vb ⟨t.n,t.m,rows',t.goal,t.basis⟩:=by
 have G:=hT.blk.lt;have j:∀ k,TN b vr' vb k->TN b vr vb k∨w.heap.size<=k:=λk i=>by
  rcases i with i|i|i
  .exact .inl (.inl i)
  .rcases hn k i with h|h
   .exact .inl (.inr (.inl h))
   exact .inr h
  exact .inl (.inr (.inr i))
 have D:vr'.ownBlock≠some b:=λe=>by
  rcases hn b e with h|h
  .exact hT.ne1 h
  omega
 obtain⟨ps,_,y,_⟩:=id hT.rows;have O:GrN (λk=>TN b vr vb k∨w.heap.size<=k) w w1:=GrN.by hg λk i=>.inl (.inr (.inl i))
 have J:GrN (λk=>TN b vr vb k∨w.heap.size<=k) w1 w2:=GrN.by hg2 λk i=>by injection i with i;exact .inl (.inl i.symm)
 refine⟨hB,(ho.gr MxC.sta (M:=λk=>k=b) (GrN.by hg2 λk i=>by injection i with i;exact i.symm) λk i=>⟨.inl (.inl i),λe=>D (by rw[e,i])⟩).old MxC.sta λk i=>.inl (j k i),?_,?_⟩
 .exact(((hT.goal.old RtC.sta (by decide) (λk i=>i)).gr RtC.sta (by decide) O).gr RtC.sta (by decide) J).old RtC.sta (by decide) λk i=>.inl (j k i)
 have u:Qz w1 base vb t.basis:=Qj hT.bas (N:=λk=>vr.ownBlock=some k) (GrN.by hg λk i=>i) λg u F=>Jkk hT.bas y kr u F;exact Qj u (N:=λk=>k=b) (GrN.by hg2 λk i=>by injection i with i;exact i.symm) λg u F=>hT.ne2 (by rw[u,F])
theorem TbV.addBas(hT:TbV w base b vr vg vb t){basis':List Nat}(ho:Qz w1 base vb' basis')(hg:w.grownBy w1 vb.ownBlock)(hn:∀ g,vb'.ownBlock=some g->vb.ownBlock=some g∨w.heap.size<=g)(hB:Blk w2 b 168 [.int .i64 (t.n:Int),.int .i64 (t.m:Int),vr,vg,vb'])(hg2:w1.grownBy w2 (some b)): TbV w2 base b vr vg vb' ⟨t.n,t.m,t.rows,t.goal,basis'⟩:=by
 have G:=hT.blk.lt;have j:∀ k,TN b vr vb' k->TN b vr vb k∨w.heap.size<=k:=λk i=>by
  rcases i with i|i|i
  .exact .inl (.inl i)
  .exact .inl (.inr (.inl i))
  rcases hn k i with h|h
  .exact .inl (.inr (.inr h))
  exact .inr h
 have y:vb'.ownBlock≠some b:=λe=>by
  rcases hn b e with h|h
  .exact hT.ne2 h
  omega
 obtain⟨ps,_,u,_⟩:=id hT.rows;have O:GrN (λk=>TN b vr vb k∨w.heap.size<=k) w w1:=GrN.by hg λk i=>.inl (.inr (.inr i))
 have J:GrN (λk=>TN b vr vb k∨w.heap.size<=k) w1 w2:=GrN.by hg2 λk i=>by injection i with i;exact .inl (.inl i.symm)
 refine⟨hB,?_,?_,Qj ho (N:=λk=>k=b) (GrN.by hg2 λk i=>by injection i with i;exact i.symm) λg F D=>y (by rw[F,D])⟩
 .have h0:=hT.rows.old MxC.sta (N':=λk=>TN b vr vb k∨w.heap.size<=k) λk i=>i;have F:=h0.gr MxC.sta (M:=λk=>vb.ownBlock=some k) (GrN.by hg λk i=>i) λk i=>⟨.inl (.inr (.inr i)),λe=>Jkk hT.bas u kr i e⟩;have D:=F.gr MxC.sta (M:=λk=>k=b) (GrN.by hg2 λk i=>by injection i with i;exact i.symm) λk i=>⟨.inl (.inl i),λe=>hT.ne1 (by rw[e,i])⟩;exact D.old MxC.sta λk i=>.inl (j k i)
 exact(((hT.goal.old RtC.sta (by decide) (λk i=>i)).gr RtC.sta (by decide) O).gr RtC.sta (by decide) J).old RtC.sta (by decide) λk i=>.inl (j k i)
end
open Go.RowKit Pl Go.Wk Bl
theorem Qfh{N:Nat->Prop}{w:World}{vC vA vB:Value}{n:Nat}{A:List (List PR)}(hC:GX 3 RtC N w vC (List.replicate n (PR.int 1)))(hA:GX 1 MxC N w vA A)(hB:GX 3 RtC N w vB (List.replicate A.length (PR.int 1)))(hbin:Bin n A)(hn:n<=64)(hm:A.length<=64):
  Ret Tryz.prog 82 [.agg #[vC,vA,vB]] w λu w'=>∃ base b vr vb,u=.pointer (some ⟨b,0,none⟩)/\w.heap.size<=base/\w.heap.size<=b/\base<=w'.heap.size/\TbV w' base b vr (.slice none 0 0) vb ⟨n,A.length,(PT.ofP n A).rows,[],(PT.ofP n A).basis⟩/\Ext w w':=by
 have ax:(PT.ofP n A).rows.length=A.length:=by simp[PT.ofP]
 obtain⟨CA,cc,_,rfl,ee,_,_,_,_⟩:=id hC.el;obtain⟨AA,ac,_,rfl,fl,_,f0,_,ez⟩:=id hA.el;obtain⟨BA,bc,_,rfl,ei,_,dq,_,dn⟩:=id hB.el;simp only[List.length_replicate]at hC hB ee ei dq dn ⊢;refine Jz Tryz.func82 Tryz.ntmps82 rfl kr rfl ?_;refine ρ ?_;refine bx ?_;intro w1 b1 bd fk bj;refine ρ ?_;refine ld (bj.at (i:=0) rfl) ?_;refine ρ ?_;refine ld (bj.at (i:=2) rfl) ?_;refine ρ ?_;refine bld (Qrk _ _ _) ?_;refine ρ ?_;refine bx ?_;intro w2 b ba cg dw;have c1:=bj.ext ba;have a8:=bd.trans ba;have l1:=bj.lt;refine ρ ?_;refine ld (c1.at (i:=1) rfl) ?_;refine ρ ?_;refine Zy (fun (i:Nat) (vr vb:Value)=>[(1,.pointer (some ⟨b1,0,none⟩)),(3,.pointer (some ⟨b,0,none⟩)),(18,.slice AA A.length ac),(19,.int .i64 (A.length:Int)),(20,.int .i64 (i:Int))])
  (λi vr vb w'=>i<=A.length/\Ext w w'/\w2.heap.size<=w'.heap.size/\Blk w' b1 122 [.slice CA n cc,.slice AA A.length ac,.slice BA A.length bc]/\TbV w' w2.heap.size b vr (.slice none 0 0) vb ⟨n,A.length,(PT.ofP n A).rows.take i,[],(List.range i).map (n + ·)⟩) (λi _ _=>A.length-i) 0 (.slice none 0 0) (.slice none 0 0) sB
  ⟨Nat.zero_le _,a8,Nat.le_refl _,c1,dw,OX.nil _ _,GX.nil _ _,Qo _ _ _ _⟩ ?_
 rintro i vr vb w3 ⟨hi,ak,cr,b4,D⟩;refine ρ ?_;refine ci (λh=>?_) (λh=>?_)
 .have F:i<A.length:=by have:=oT h;omega
  clear h;obtain⟨ce,fi,⟨va,rfl,hG⟩,ed⟩:=ez i F;have em:A.getD i []=A[i]:=by simp[List.getD,List.getElem?_eq_getElem F]
  obtain⟨bf,dg⟩:=hbin i F;rw[<-em]at hG;generalize haa:A.getD i []=a at *
  obtain⟨K,kc,_,rfl,e9,_,dm,_,et⟩:=id hG.el;rw[bf]at dm e9;have bq:w3.cell? (adr AA i)=some (.slice K a.length kc):=by
   have:=Qp ak (ed 0 _ rfl);rwa [Nat.mul_one,add_zero]at this
  rw[bf]at bq;refine ρ ?_;refine ix i (f0.ext ak) F ?_;refine ρ ?_;refine ld bq ?_;refine ρ ?_;refine cl (Gt (n:=n) (m:=A.length) D.blk rfl rfl om om) ?_;rintro _ w4 ⟨rfl,J⟩;refine ρ ?_;refine Go.Wk.kv 27 (u:=.int .i64 ((n+A.length+2:Nat):Int)) (congrArg (Value.int .i64) (by show((n+A.length+1:Nat):Int)+1=_;omega)) ?_;refine cl (Jzj (n+A.length+2) om w4) ?_;rintro u w5 ⟨hU,cp⟩;have f4:=J.trans cp;obtain⟨U,uc,_,eu,ff,ay,fm⟩:=id hU.el;rw[List.length_replicate]at eu ay;subst eu;obtain⟨_,_,_,_,bg⟩:=id hU.form;have bh:∀ g,(Value.slice U (n+A.length+2) uc).ownBlock=some g->Ov w4 (.slice U (n+A.length+2) uc) g:=λg hg=>.inr hg;have d1:(a++List.replicate (A.length+2) pr0).length=(List.replicate (n+A.length+2) pr0).length:=by simp[bf];omega
  refine ρ ?_;refine Jl (fun (j:Nat)=>[(1,.pointer (some ⟨b1,0,none⟩)),(3,.pointer (some ⟨b,0,none⟩)),(4,.int .i64 (i:Int)),(6,.slice U (n+A.length+2) uc),(18,.slice AA A.length ac),(19,.int .i64 (A.length:Int)),(20,.int .i64 (i:Int)),(29,.slice K n kc),(30,.int .i64 (n:Int)),(31,.int .i64 (j:Int))])
   (λj w'=>j<=n/\Ext w4 w'/\OX 84 3 RtC (Ov w4 (.slice U (n+A.length+2) uc)) w' w4.heap.size (.slice U (n+A.length+2) uc) (mix (a++List.replicate (A.length+2) pr0) (List.replicate (n+A.length+2) pr0) j)) (λj=>n-j) 0 sB ⟨Nat.zero_le _,cp,by rw[Kw];exact hU⟩ ?_
  rintro j w6 ⟨hj,ar,az⟩;have c8:(mix (a++List.replicate (A.length+2) pr0) (List.replicate (n+A.length+2) pr0) j).length=n+A.length+2:=by rw[Us d1 (by simp;omega)];simp
  have av:=J.trans ar;obtain⟨U',e3,_,ev,_,bt,_⟩:=id az.el;rw[c8]at ev bt;injection ev with ev1 ev2 ev3
  subst ev1;obtain⟨_,_,_,_,dh⟩:=id az.form;refine ρ ?_;refine ci (λh=>?_) (λh=>?_)
  .have be:j<n:=by have:=oT h;omega
   clear h;obtain⟨ce,_,da,ec⟩:=et j om;have df:a[j]'(by omega)=a.getD j pr0:=by simp[List.getD,List.getElem?_eq_getElem (show j<a.length by omega)]
   rw[df]at da;have e0:=dg j be;have cx:(a.getD j pr0).Nrm:=by
    rcases e0 with e|e<;>rw[e]
    .exact Jqq
    exact PR.int_nrm 1
   have e7:=cx.norm;have f5:(a.getD j pr0).num<=1/\(a.getD j pr0).den<=1:=by rcases e0 with e|e<;>rw[e]<;>decide
   have d2:(a++List.replicate (A.length+2) pr0)[j]?=some (a.getD j pr0):=by rw[List.getElem?_append_left om,<-df];exact gE om
   generalize a.getD j pr0=q at *
   obtain⟨E1,x1,E2,x2,rfl,e6⟩:=da.sl;have am:=ak.trans av;refine ρ ?_;refine ixq 3 j (dm.ext am) be ?_;refine ρ ?_;refine lds (λk u hu=>Qp am (ec k u hu)) ?_;refine ρ ?_;refine alc Vq ?_;intro w7 b8 b9 ek ey;refine ρ ?_;refine stb (cs':=[.bool q.neg,.slice E1 _ x1,.slice E2 _ x2]) ey ?_ (Qv rfl rfl rfl);intro w8 dt d3 e4;have a6:Ext w6 w8:=e4 w6 b9 ek;refine ρ ?_;refine ldW dt ?_;refine ρ ?_;refine cl (Zn (e6.ext (am.trans a6)) om om) ?_;rintro r w9 ⟨hR,ao⟩;rw[e7]at hR;have aq:=a6.trans ao;obtain⟨G1,g1,G2,g2,rfl,cd⟩:=hR.cell;refine ρ ?_;refine ixq 3 j (bt.ext aq) om ?_;refine ρ ?_;refine stX RtC.sta (az.ext RtC.sta aq) c8.symm (show j<_ by omega) (cs:=[.bool q.neg,.slice G1 _ g1,.slice G2 _ g2]) (a:=q) (RtC.sta.old cd λk y=>.inl ?_) bh (Qv rfl rfl rfl) ?_
   .rcases y with y|y
    .exact nM y (ar.trans a6).size
    exact nM (dh k y).2 a6.size
   intro e2 a5 d7;rw[Ur d1 (by simp;omega) d2]at a5;refine ρ ?_;exact Jf (j+1) sO ⟨om,Jh (ar.trans aq) d7 (λg hg=>(bg g hg).1),a5⟩ om
  have be:j=n:=by have:=oF h;omega
  clear h;subst be;have es:=D.ext av;have f7:=b4.ext av;have ca:(mix (a++List.replicate (A.length+2) pr0) (List.replicate (j+A.length+2) pr0) j).length=j+A.length+2:=c8;have ch:∀ {w':World} {ls:List PR},OX 84 3 RtC (Ov w4 (.slice U (j+A.length+2) uc)) w' w4.heap.size (.slice U (j+A.length+2) uc) ls->Ext w4 w'->∀ k,Ov w4 (.slice U (j+A.length+2) uc) k->k<w'.heap.size:=fun {w' ls} h hx k y=>by
   rcases y with y|y
   .exact nM y hx.size
   obtain⟨_,_,_,_,h3⟩:=id h.form;exact(h3 k y).2
  have ay:∀ {w':World} {ls:List PR},OX 84 3 RtC (Ov w4 (.slice U (j+A.length+2) uc)) w' w4.heap.size (.slice U (j+A.length+2) uc) ls->ls.length=j+A.length+2->∃ cs,Rd w' 3 U (j+A.length+2) cs:=fun {w' ls} h hl=>by
   obtain⟨U',e3,cs,ev,_,hd,_⟩:=id h.el;rw[hl]at ev hd;injection ev with ev1 ev2 ev3
   subst ev1;exact⟨cs,hd⟩
  generalize hL0:mix (a++List.replicate (A.length+2) pr0) (List.replicate (j+A.length+2) pr0) j=L0 at *
  have b7:Ext w6 w6.drew:=(Ext.refl w6).drew;have eo:=es.ext b7;refine ρ ?_;refine dr [(0,0),(0,1),(0,2),(0,3),(0,4),(0,5),(0,6),(1,7),(0,8),(2,9)] kr ?_;refine ρd ?_;refine dld (v:=.int .i64 (j:Int)) (eo.blk.at (i:=0) rfl) ?_;refine ρd ?_;refine dcl (Gu 1 (by decide) (by decide) _) ?_;rintro r w7 ⟨hR,b9⟩;refine⟨b9,?_⟩;have bl:=b7.trans b9;have dj:=az.ext RtC.sta bl;obtain⟨_,eb⟩:=ay dj ca;obtain⟨G1,g1,G2,g2,rfl,cd⟩:=hR.cell;refine ρd ?_;refine Qr 3 (j+i) eb om ?_;refine ρd ?_;refine Jg ?_;refine stX RtC.sta dj ca.symm (show j+i<_ by omega) (cs:=[.bool (PR.int 1).neg,.slice G1 _ g1,.slice G2 _ g2]) (a:=PR.int 1) (RtC.sta.old cd λk y=>.inl (ch (az.ext RtC.sta b7) (ar.trans b7) k y)) bh (Qv rfl rfl rfl) ?_;intro w8 di d3;have au:Ext w4 w8:=Jh (ar.trans bl) d3 (λg hg=>(bg g hg).1);have c9:(L0.set (j+i) (PR.int 1)).length=j+A.length+2:=by rw[List.length_set];exact ca
  have er:=D.ext (J.trans au);refine ρ ?_;refine cl (Qsj (n:=j) (m:=A.length) er.blk rfl rfl om om) ?_;rintro _ w9 ⟨rfl,ao⟩;refine ρ ?_;refine cl (Gu (-1) (by decide) (by decide) _) ?_;rintro r e2 ⟨hR,cq⟩;have ap:=ao.trans cq;have a5:=di.ext RtC.sta ap;obtain⟨_,d9⟩:=ay a5 c9;obtain⟨H1,h1,H2,h2,rfl,dd⟩:=hR.cell;refine ρ ?_;refine ixq 3 (j+A.length) d9 om ?_;refine ρ ?_;refine stX RtC.sta a5 c9.symm (show j+A.length<_ by omega) (cs:=[.bool (PR.int (-1)).neg,.slice H1 _ h1,.slice H2 _ h2]) (a:=PR.int (-1)) (RtC.sta.old dd λk y=>.inl (ch (di.ext RtC.sta ao) (au.trans ao) k y)) bh (Qv rfl rfl rfl) ?_;intro b6 bw d6;have G:Ext w4 b6:=Jh (au.trans ap) d6 (λg hg=>(bg g hg).1);have bp:((L0.set (j+i) (PR.int 1)).set (j+A.length) (PR.int (-1))).length=j+A.length+2:=by rw[List.length_set];exact c9
  have aj:Ext b6 b6.drew:=(Ext.refl b6).drew;have dl:=(D.ext (J.trans G)).ext aj;have co:=(b4.ext (J.trans G)).ext aj;have aw:=(ak.trans (J.trans G)).trans aj;obtain⟨cb,_,br,db⟩:=dn i F;have eh:(List.replicate A.length (PR.int 1))[i]'(by simpa using F)=PR.int 1:=by simp
  simp only[eh]at br;obtain⟨F1,f1,F2,f2,rfl,ej⟩:=br.sl;have e8:(PR.int 1).norm=PR.int 1:=(PR.int_nrm 1).norm;refine ρ ?_;refine dr [(0,0),(0,1),(0,3),(0,4),(0,5),(0,6),(0,7),(1,2),(1,8),(0,9),(2,10)] kr ?_;refine ρd ?_;refine dld (co.at (i:=2) rfl) ?_;refine ρd ?_;refine Qr 3 i (dq.ext aw) F ?_;refine ρd ?_;refine Qq (λk u hu=>Qp aw (db k u hu)) ?_;refine ρd ?_;refine dcl (Gt (n:=j) (m:=A.length) dl.blk rfl rfl om om) ?_;rintro _ fc ⟨rfl,a3⟩;refine⟨a3,?_⟩;refine ρd ?_;refine dcl (Zn (ej.ext (aw.trans a3)) (by decide) (by decide)) ?_;rintro r fb ⟨hR,bm⟩;refine⟨bm,?_⟩;rw[e8]at hR;have a7:=(aj.trans a3).trans bm;have bv:=bw.ext RtC.sta a7;obtain⟨_,d8⟩:=ay bv bp;obtain⟨I1,i1,I2,i2,rfl,dc⟩:=hR.cell;refine ρd ?_;refine Qr 3 (j+A.length+1) d8 om ?_;refine ρd ?_;refine Jg ?_;refine stX RtC.sta bv bp.symm (show j+A.length+1<_ by omega) (cs:=[.bool (PR.int 1).neg,.slice I1 _ i1,.slice I2 _ i2]) (a:=PR.int 1) (RtC.sta.old dc λk y=>.inl (ch (bw.ext RtC.sta (aj.trans a3)) (G.trans (aj.trans a3)) k y)) bh (Qv rfl rfl rfl) ?_
  intro e1 b3 d5;have a2:Ext w4 e1:=Jh (G.trans a7) d5 (λg hg=>(bg g hg).1);rw[<-hL0]at b3;have de:=Qdp hbin F;rw[haa]at de;rw[de]at b3;have cw:(PT.ofP j A).rows.getD i []=(PT.ofP j A).rows[i]'(by rw[ax];exact F):=by simp[List.getD,List.getElem?_eq_getElem (show i<(PT.ofP j A).rows.length by rw[ax];exact F)]
  have cv:((PT.ofP j A).rows.getD i []).length=j+A.length+2:=by rw[Jxc i F,haa,List.length_append,List.length_append,bf,List.length_map,List.length_range];rfl
  generalize hrw:(PT.ofP j A).rows.getD i []=rw' at *
  have c0:=D.ext (J.trans a2);have cn:=b4.ext (J.trans a2);have c7:=ak.trans (J.trans a2);have bo:=nL cr (J.trans a2).size;refine ρ ?_;refine ld (c0.blk.at (i:=2) rfl) ?_;refine ρ ?_;refine bsl (Qjj _ _ _) ?_;intro b5 bb Z fj ex;have ae:=c0.ext Z;have bu:=(b3.ext RtC.sta Z).old RtC.sta (N':=λk=>Ov w4 (.slice U (j+A.length+2) uc) k∨b5.heap.size<=k) λk y=>y;have en:=D.lt;have ew:GX 3 RtC (λk=>TN b vr vb k∨b5.heap.size<=k) b5 (.slice U (j+A.length+2) uc) rw':=bu.gx RtC.sta (by rw[cv];omega) λk y=>by
   obtain⟨_,_,_,_,h3⟩:=id bu.form;rcases y with y|y
   .have:=en k y;have:=J.size;exact⟨.inl (.inl om),λe=>by have:=(h3 k e).1;omega⟩
   exact⟨.inr y,λe=>by have:=(h3 k e).2;omega⟩
  refine ρ ?_;refine apX (N:=λk=>TN b vr vb k∨b5.heap.size<=k) EMx MxC.sta (ae.rows.old MxC.sta λk y=>y) ex rfl (λu hu=>by rw[List.mem_singleton.1 hu];rfl) ⟨_,rfl,ew⟩ (λg hg=>.inl (.inr (.inl hg))) (by simp;omega) (by decide) (nL bo Z.size) ?_;intro vr' fa ah a4 d0;have e5:(PT.ofP j A).rows.take i++[rw']=(PT.ofP j A).rows.take (i+1):=by rw[List.take_add_one,List.getElem?_eq_getElem (by rw[ax];exact F),cw];rfl
  simp only at ah;rw[e5]at ah;obtain⟨R',fe,ev,_,_⟩:=id ah.form;subst ev;have cj:=ae.blk.grown a4 (λe=>ae.ne1 e.symm);refine ρ ?_;refine stF (i:=2) cj rfl ?_;intro ai dz aa;have bz:=ae.addRow ah a4 d0 dz aa;have ep:∀ k,TN b vr vb k->w2.heap.size<=k∨k=b:=λk y=>by
   rcases y with y|y|y
   .exact .inr y
   .obtain⟨_,_,_,_,h3⟩:=id D.rows.form;exact .inl (h3 k y).1
   obtain⟨_,_,_,_,h3⟩:=Jy D.bas;exact .inl (h3 k y).1
  have fh:=dw.lt;have bs:b1≠b:=om
  have c6:=c7.trans Z;have c5:Ext w ai:=Jh (Jh c6 a4 λk y=>by
   obtain⟨_,_,_,_,h3⟩:=id D.rows.form;have:=(h3 k y).1;have:=a8.size;omega) aa λk y=>by injection y with y;subst y;exact nL bd.size cg
  have cm:Blk ai b1 _ _:=((cn.ext Z).grown a4 λe=>by
   obtain⟨_,_,_,_,h3⟩:=id D.rows.form;have:=(h3 b1 e.symm).1;have:=ba.size;omega).grown aa λe=>by injection e with e;exact bs e
  have bn:w2.heap.size<=ai.heap.size:=nL bo (nL Z.size (nL a4.size aa.size));obtain⟨S,sc,eS,fg,_⟩:=Jy bz.bas;have an:Ext ai ai.drew:=(Ext.refl ai).drew;have bi:=bz.ext an;have cy:¬ vb.ownBlock=some b:=bi.ne2;have eg:((List.range i).map (j + ·)).length=i:=by simp
  refine ρ ?_;refine drN (λk=>vb.ownBlock=some k) 18 [(0,0),(0,1),(0,2),(0,3),(0,4),(0,5),(0,6),(0,7),(0,8),(0,9),(0,10),(1,11),(1,12),(0,13),(0,14),(2,15)] kr ?_;refine ρn ?_;refine nld (λw' hg=>(Ju bi.blk hg cy).at (i:=4) rfl) ?_;refine ρn ?_;refine nld (v:=.int .i64 (j:Int)) (λw' hg=>(Ju bi.blk hg cy).at (i:=0) rfl) ?_;refine ρn ?_;refine nkv 86 (u:=.int .i64 ((j+i:Nat):Int)) (congrArg (Value.int .i64) (show(j:Int)+(i:Int)=((j+i:Nat):Int) by omega)) ?_;refine nop ?_;refine bsl (Gh _) ?_;intro f9 b2 O f6 ds;refine Qk (Ql (GrN.ext O) ?_);have ad:=bi.ext O;refine ρn ?_;refine nop ?_;refine apI (z:=j+i) ad.bas ds (by rw[eg];omega) (nL bn (an.trans O).size) ?_;intro vb' f8 af a1 cz;have ef:(List.range i).map (j + ·)++[j+i]=(List.range (i+1)).map (j + ·):=by rw[List.range_succ,List.map_append];rfl
  simp only at af;rw[ef]at af;refine Qk (Ql (GrN.by a1 λk e=>e) ?_);obtain⟨S',fd,f3,_,_⟩:=Jy af;subst f3;have dx:=ad.blk.grown a1 (λe=>ad.ne2 e.symm);refine ρn ?_;refine Xt ?_;refine stF (i:=4) dx rfl ?_;intro c2 du a9;have dk:=ad.addBas af a1 cz du a9;have c4:=c5.trans (an.trans O);have c3:Ext w c2:=Jh (Jh c4 a1 λk y=>by
   obtain⟨_,_,_,_,h3⟩:=Jy D.bas;have:=(h3 k y).1;have:=a8.size;omega) a9 λk y=>by injection y with y;subst y;exact nL bd.size cg
  have ck:Blk c2 b1 _ _:=((cm.ext (an.trans O)).grown a1 λe=>by
   obtain⟨_,_,_,_,h3⟩:=Jy D.bas;have:=(h3 b1 e.symm).1;have:=ba.size;omega).grown a9 λe=>by injection e with e;exact bs e
  have cu:w2.heap.size<=c2.heap.size:=nL bn (nL (an.trans O).size (nL a1.size a9.size));refine Qk (Up ?_);refine ρn ?_;refine ρ ?_;exact Xj (i+1) _ _ sO ⟨om,c3,cu,ck,dk⟩ om
 have ea:i=A.length:=by have:=oF h;omega
 subst ea;rw[<-ax,List.take_length,ax]at D;refine ρ ?_;exact Jq ⟨w2.heap.size,b,vr,vb,rfl,a8.size,Nat.le_trans bd.size cg,cr,D,ak⟩
end Go.Proofs.YtebiphhfkdbpfaaGreat
