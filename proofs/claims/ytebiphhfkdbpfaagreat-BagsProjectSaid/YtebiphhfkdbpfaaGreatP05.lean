/- Part 5. -/
import Derived.Test.YtebiphhfkdbpfaaGreatP04
import Derived.Scope
set_option linter.unusedVariables false
set_option maxRecDepth 100000
set_option maxHeartbeats 40000000
namespace Go.Proofs.YtebiphhfkdbpfaaGreat
open Bl
variable {i k:Nat}
theorem PR.cmp_val{a b:PR}(ha:a.den≠0)(hb:b.den≠0): (PR.cmp a b<0↔a.val<b.val)/\(PR.cmp a b=0↔a.val=b.val):=by
 obtain⟨a1,Z,a3⟩:=PR.sign_val ha;obtain⟨b1,U,b3⟩:=PR.sign_val hb;have da:a.dvs=a.den:=by rw[PR.dvs,if_neg ha]
 have db:b.dvs=b.den:=by rw[PR.dvs,if_neg hb]
 have O:a.sign = -1∨a.sign=0∨a.sign=1:=by(unfold PR.sign;by_cases F:a.num=0<;>by_cases u:a.neg=true<;>simp[F,u])
 have sb:b.sign = -1∨b.sign=0∨b.sign=1:=by(unfold PR.sign;by_cases F:b.num=0<;>by_cases u:b.neg=true<;>simp[F,u])
 unfold PR.cmp;by_cases e:a.sign=b.sign
 .rw[if_neg (λh=>h e),da,db];have pa:(0:Rat)<a.den:=Rat.natCast_pos.2 om;have pb:(0:Rat)<b.den:=Rat.natCast_pos.2 om;have y:(a.num*b.den<b.num*a.den)↔(a.num:Rat) / a.den<(b.num:Rat) / b.den:=by
   rw[<-Rat.natCast_lt_natCast,Rat.natCast_mul,Rat.natCast_mul,Rat.div_lt_iff pa];have:(b.num:Rat) / b.den*a.den=(b.num*a.den) / b.den:=by grind
   rw[this,Rat.lt_div_iff pb]
  have D:(a.num*b.den=b.num*a.den)↔(a.num:Rat) / a.den=(b.num:Rat) / b.den:=by
   rw[<-Rat.natCast_inj,Rat.natCast_mul,Rat.natCast_mul];constructor<;>intro h<;>grind
  have va:a.sign = -1->a.val = -((a.num:Rat) / a.den):=λh=>by
   unfold PR.sign at h;unfold PR.val;split at h
   .simp at h
   split at h
   .rename_i u;rw[if_pos u];grind
   simp at h
  have vb:b.sign = -1->b.val = -((b.num:Rat) / b.den):=λh=>by
   unfold PR.sign at h;unfold PR.val;split at h
   .simp at h
   split at h
   .rename_i u;rw[if_pos u];grind
   simp at h
  have J:a.sign=1->a.val=(a.num:Rat) / a.den:=λh=>by
   unfold PR.sign at h;unfold PR.val;split at h
   .simp at h
   split at h
   .simp at h
   rename_i u;rw[if_neg u]
  have G:b.sign=1->b.val=(b.num:Rat) / b.den:=λh=>by
   unfold PR.sign at h;unfold PR.val;split at h
   .simp at h
   split at h
   .simp at h
   rename_i u;rw[if_neg u]
  rcases O with h|h|h
  .rw[va h,vb (e ▸ h),h];constructor
   .split
    .have:=y.1 ‹_›;grind
    split
    .have:=D.1 ‹_›;grind
    rename_i F u;rw[y]at F;rw[D]at u;grind
   split
   .have:=y.1 ‹_›;grind
   split
   .have:=D.1 ‹_›;grind
   rename_i F u;rw[y]at F;rw[D]at u;grind
  .have F:=Z.1 h;have u:=U.1 (e ▸ h);rw[h,F,u];simp
  rw[J h,G (e ▸ h),h];constructor
  .split
   .have:=y.1 ‹_›;grind
   split
   .have:=D.1 ‹_›;grind
   rename_i F u;rw[y]at F;rw[D]at u;grind
  split
  .have:=y.1 ‹_›;grind
  split
  .have:=D.1 ‹_›;grind
  rename_i F u;rw[y]at F;rw[D]at u;grind
 rw[if_pos e];have:(a.sign<b.sign↔a.val<b.val)/\a.val≠b.val:=by
  rcases O with h|h|h<;>rcases sb with k|k|k<;>first|exact absurd (h.trans k.symm) e|(rw[h]at a1 Z a3;rw[k]at b1 U b3;rw[h,k];constructor<;>grind)
 split
 .rename_i h;have:=this.1.1 h;simp[this];exactλe=>by grind
 rename_i h;simp;refine⟨by have:=this.1;grind,this.2⟩
def PT.q(t:PT): QT:=⟨λi j=>((t.rows.getD i []).getD j pr0).val,λi=>((t.rows.getD i []).getD t.right pr0).val,λj=>(t.goal.getD j pr0).val,(t.goal.getD t.right pr0).val,λi=>t.basis.getD i 0⟩
def ROk(k:Nat)(l:List PR): Prop:=l.length=k/\∀ j,j<k->(l.getD j pr0).den≠0
structure POk(t:PT): Prop where
 rows:t.rows.length=t.m
 row:∀ i,i<t.m->ROk (t.right+1) (t.rows.getD i [])
 goal:ROk (t.right+1) t.goal
 basis:t.basis.length=t.m
theorem Xy{α:Type}(d:α){l:List α}(h:i<l.length): l.getD i d=l[i]:=by simp[List.getD,h]
theorem Jwd{row other:List PR}{f:PR}(hr:ROk k row)(ho:ROk k other)(hf:f.den≠0): ROk k (Xe row other f)/\∀ j,j<k->((Xe row other f).getD j pr0).val=(row.getD j pr0).val-f.val*(other.getD j pr0).val:=by
 have y:=(PR.sign_val hf).2.1;unfold Xe;by_cases h0:f.sign=0
 .rw[if_pos h0];refine⟨hr,λj u=>?_⟩;rw[y.1 h0];grind
 rw[if_neg h0];have F:(List.zipWith (λa b=>if b.sign≠0 then PR.sub a (PR.mul f b) else a) row other).length=k:=by rw[List.length_zipWith,hr.1,ho.1,Nat.min_self]
 have key:∀ j,j<k->(List.zipWith (λa b=>if b.sign≠0 then PR.sub a (PR.mul f b) else a) row other).getD j pr0=if(other.getD j pr0).sign≠0 then PR.sub (row.getD j pr0) (PR.mul f (other.getD j pr0)) else row.getD j pr0:=λj u=>by
  rw[Xy pr0 om,Xy pr0 (l:=row) (by rw[hr.1];exact u),Xy pr0 (l:=other) (by rw[ho.1];exact u)];simp
 refine⟨⟨F,λj u=>?_⟩,λj u=>?_⟩
 .rw[key j u];split
  .exact(PR.sub_val (hr.2 j u) (PR.mul_val hf (ho.2 j u)).2).2
  exact hr.2 j u
 rw[key j u];have D:=(PR.sign_val (ho.2 j u)).2.1;split
 .rw[(PR.sub_val (hr.2 j u) (PR.mul_val hf (ho.2 j u)).2).1,(PR.mul_val hf (ho.2 j u)).1]
 rename_i h1;have G:(other.getD j pr0).sign=0:=by
  by_cases e:(other.getD j pr0).sign=0
  .exact e
  exact absurd e h1
 rw[D.1 G];grind
theorem Jbx{row:List PR}{d:PR}(hr:ROk k row)(hd:d.den≠0)(h0:d.val≠0): ROk k (dvR row d)/\∀ j,j<k->((dvR row d).getD j pr0).val=(row.getD j pr0).val / d.val:=by
 have D:(dvR row d).length=k:=by rw[dvR,List.length_map,hr.1]
 have key:∀ j,j<k->(dvR row d).getD j pr0=if(row.getD j pr0).sign≠0 then PR.div (row.getD j pr0) d else row.getD j pr0:=λj u=>by
  rw[Xy pr0 om,Xy pr0 (l:=row) (by rw[hr.1];exact u)];simp[dvR]
 refine⟨⟨D,λj u=>?_⟩,λj u=>?_⟩
 .rw[key j u];split
  .exact(PR.div_val (hr.2 j u) hd h0).2
  exact hr.2 j u
 rw[key j u];have y:=(PR.sign_val (hr.2 j u)).2.1;split
 .exact(PR.div_val (hr.2 j u) hd h0).1
 rename_i h1;have F:(row.getD j pr0).sign=0:=by
  by_cases e:(row.getD j pr0).sign=0
  .exact e
  exact absurd e h1
 rw[y.1 F];grind
open Bl
variable {c cols i r:Nat}{t:PT}{T:QT}
structure Agr(t:PT)(T:QT): Prop where
 ok:POk t
 a:∀ i j,i<t.m->j<t.n+t.m->((t.rows.getD i []).getD j pr0).val=T.a i j
 b:∀ i,i<t.m->((t.rows.getD i []).getD t.right pr0).val=T.b i
 g:∀ j,j<t.n+t.m->(t.goal.getD j pr0).val=T.g j
 z:(t.goal.getD t.right pr0).val=T.z
 β:∀ i,i<t.m->t.basis.getD i 0=T.β i
theorem Jkm{α β:Type}(d:α)(e:β){l:List α}(f:Nat->α->β)(h:i<l.length): (l.mapIdx f).getD i e=f i (l.getD i d):=by
 rw[Xy e (by simpa using h),Xy d h];simp
theorem Qgk{l:List Nat}(h:i<l.length): (l.set r c).getD i 0=if i=r then c else l.getD i 0:=by
 rw[Xy 0 (by simpa using h),Xy 0 h,List.getElem_set];by_cases e:r=i
 .subst e;simp
 rw[if_neg e,if_neg (λh=>e h.symm)]
theorem Qph(h:Agr t T)(hr:r<t.m)(hc:c<t.n+t.m)(h0:T.a r c≠0): Agr (t.pivot r c) (T.pivot r c):=by
 have hR:=h.ok.row r hr;have U:c<t.right+1:=by unfold PT.right;omega
 have F:t.right<t.right+1:=om
 have G:∀ j,j<t.n+t.m->j<t.right+1:=λj hj=>by unfold PT.right;omega
 have Z:((t.rows.getD r []).getD c pr0).val=T.a r c:=h.a r c hr hc;have hd:=hR.2 c U;obtain⟨dk,dv⟩:=Jbx hR hd (by rw[Z];exact h0);rw[Z]at dv;have D:∀ i,i<t.m->(t.pivot r c).rows.getD i []=if i=r then dvR (t.rows.getD r []) ((t.rows.getD r []).getD c pr0) else Xe (t.rows.getD i []) (dvR (t.rows.getD r []) ((t.rows.getD r []).getD c pr0)) ((t.rows.getD i []).getD c pr0):=λi hi=>by
  unfold PT.pivot;exact Jkm [] [] _ (by rw[h.ok.rows];exact hi)
 have O:=λi (hi:i<t.m)=>Jwd (h.ok.row i hi) dk ((h.ok.row i hi).2 c U);have J:=Jwd h.ok.goal dk (h.ok.goal.2 c U);refine⟨⟨?_,λi hi=>?_,J.1,?_⟩,λi j hi hj=>?_,λi hi=>?_,λj hj=>?_,?_,λi hi=>?_⟩
 .simp only[PT.pivot,List.length_mapIdx];exact h.ok.rows
 .have u:i<t.m:=hi;rw[D i u];by_cases e:i=r
  .rw[if_pos e];exact dk
  rw[if_neg e];exact(O i u).1
 .simp only[PT.pivot,List.length_set];exact h.ok.basis
 .have u:i<t.m:=hi;have y:j<t.n+t.m:=hj;rw[D i u];simp only[QT.pivot];by_cases e:i=r
  .rw[if_pos e,if_pos e,dv j (G j y),h.a r j hr y]
  rw[if_neg e,if_neg e,(O i u).2 j (G j y),h.a i j u y,h.a i c u hc,dv j (G j y),h.a r j hr y]
 .have u:i<t.m:=hi;rw[D i u];simp only[QT.pivot];have er:(t.pivot r c).right=t.right:=rfl;rw[er];by_cases e:i=r
  .rw[if_pos e,if_pos e,dv _ F,h.b r hr]
  rw[if_neg e,if_neg e,(O i u).2 _ F,h.b i u,h.a i c u hc,dv _ F,h.b r hr]
 .have y:j<t.n+t.m:=hj;simp only[QT.pivot];exact(J.2 j (G j y)).trans (by rw[h.g j y,h.g c hc,dv j (G j y),h.a r j hr y])
 .simp only[QT.pivot];exact(J.2 _ F).trans (by rw[h.z,h.g c hc,dv _ F,h.b r hr])
 have u:i<t.m:=hi;simp only[QT.pivot,PT.pivot];rw[Qgk (by rw[h.ok.basis];exact u),h.β i u]
theorem Jmv{t:PT}{T:QT}{c:Nat}(h:Agr t T)(hc:c<t.n+t.m): ∀ k,k<=t.m->match lvS t c k with
  | none=>∀ i,i<k->¬ 0<T.a i c
  | some (r,q)=>r<k/\0<T.a r c/\q.den≠0/\q.val=T.b r / T.a r c/\∀ i,i<k->0<T.a i c->T.b r / T.a r c<=T.b i / T.a i c/\(T.b i / T.a i c=T.b r / T.a r c->T.β r<=T.β i)
 | 0,_=>by simp only[lvS];intro i hi;omega
 | k+1,hk=>by
  have ih:=Jmv h hc k om;have hR:=h.ok.row k om;have hcR:c<t.right+1:=by unfold PT.right;omega
  have hrR:t.right<t.right+1:=om
  have ha:=h.a k c om hc;have hb:=h.b k om;have hs:=PR.sign_val (hR.2 c hcR);rw[ha]at hs;simp only[lvS];by_cases e:((t.rows.getD k []).getD c pr0).sign<=0
  .rw[if_pos e];have hn:¬ 0<T.a k c:=λhp=>by have:=hs.2.2.2 hp;omega
   cases hl:lvS t c k with
   | none=>
    rw[hl]at ih;intro i hi;by_cases ei:i=k
    .rw[ei];exact hn
    exact ih i om
   | some p=>
    obtain⟨r,q⟩:=p;rw[hl]at ih;obtain⟨h1,h2,h3,h4,h5⟩:=ih;refine⟨om,h2,h3,h4,λi hi hp=>?_⟩;by_cases ei:i=k
    .rw[ei]at hp;exact absurd hp hn
    exact h5 i om hp
  rw[if_neg e];have hp:0<T.a k c:=hs.2.2.1 om;have hq:=PR.div_val (hR.2 t.right hrR) (hR.2 c hcR) (by rw[ha];grind);rw[ha,hb]at hq;cases hl:lvS t c k with
  | none=>
   rw[hl]at ih;refine⟨om,hp,hq.2,hq.1,λi hi hpi=>?_⟩;by_cases ei:i=k
   .subst ei;exact⟨by grind,λ_=>nR _⟩
   exact absurd hpi (ih i om)
  | some p=>
   obtain⟨r,q⟩:=p;rw[hl]at ih;obtain⟨h1,h2,h3,h4,h5⟩:=ih;have hcv:=PR.cmp_val hq.2 h3;rw[hq.1,h4]at hcv;simp only[];by_cases e2:PR.cmp (PR.div ((t.rows.getD k []).getD t.right pr0) ((t.rows.getD k []).getD c pr0)) q<0∨(PR.cmp (PR.div ((t.rows.getD k []).getD t.right pr0) ((t.rows.getD k []).getD c pr0)) q=0/\t.basis.getD k 0<t.basis.getD r 0)
   .rw[if_pos e2];rw[hcv.1,hcv.2,h.β k om,h.β r om]at e2;refine⟨om,hp,hq.2,hq.1,λi hi hpi=>?_⟩;by_cases ei:i=k
    .subst ei;exact⟨by grind,λ_=>nR _⟩
    obtain⟨k1,k2⟩:=h5 i om hpi;rcases e2 with e2|⟨e2,e3⟩
    .exact⟨by grind,λhe=>by exfalso;grind⟩
    refine⟨by grind,λhe=>?_⟩;have:=k2 (by grind);omega
   rw[if_neg e2];rw[hcv.1,hcv.2,h.β k om,h.β r om]at e2;refine⟨om,h2,h3,h4,λi hi hpi=>?_⟩;by_cases ei:i=k
   .subst ei;have k1:¬ T.b i / T.a i c<T.b r / T.a r c:=λhh=>e2 (.inl hh);exact⟨by grind,λhe=>by
     rcases Nat.lt_or_ge (T.β i) (T.β r) with hh|hh
     .exact absurd (.inr ⟨he,hh⟩) e2
     exact hh⟩
   exact h5 i om hpi
theorem Jpz(h:Agr t T)(hc:cols<=t.n+t.m): match t.enter cols with
  | none=>∀ j,j<cols->0<=T.g j
  | some c=>c<cols/\T.g c<0/\∀ j,j<c->0<=T.g j:=by
 have y:∀ j,j<cols->((t.goal.getD j pr0).sign<0↔T.g j<0):=λj u=>by
  have:=(PR.sign_val (h.ok.goal.2 j (by unfold PT.right;omega))).1;rw[h.g j om]at this;exact this
 cases hl:t.enter cols with
 | none=>
  intro j u;unfold PT.enter at hl;have:=List.find?_eq_none.1 hl j (List.mem_range.2 u);simp only[decide_eq_true_eq]at this;rw[y j u]at this;grind
 | some c=>
  unfold PT.enter at hl;rw[List.find?_range_eq_some]at hl;obtain⟨F,D,G⟩:=hl;simp only[decide_eq_true_eq,List.mem_range]at F D;refine⟨D,(y c D).1 F,λj u=>?_⟩;have:=G j u;simp only[Bool.not_eq_true',decide_eq_false_iff_not]at this;rw[y j om]at this;grind
def Bnd(m n:Nat)(T0:QT): Prop:=∀ S,WF m n S->Kf m S->Eqv m n T0 S->Eqv m n S T0->∀ c,c<n->S.g c<0->∃ i,i<m/\0<S.a i c
open Bl
variable {A:List (List PR)}{n:Nat}
namespace Bl
variable {k m n:Nat}{f:Nat->Rat}
theorem Jvh(h:∀ j,j<n->0<=f j): 0<=Jc n f:=by
 induction n with
 | zero=>simp[Jc]
 | succ n ih=>
  have D:=ih λj u=>h j om;have y:=h n om;rw[Jc];grind
theorem Qxz(h:∀ j,j<n->0<=f j)(hk:k<n): f k<=Jc n f:=by
 induction n with
 | zero=>omega
 | succ n ih=>
  have D:=Jvh (n:=n) (f:=f) λj u=>h j om;have y:=h n om;rw[Jc];by_cases e:k=n
  .subst e;grind
  have:=ih (λj u=>h j om) om;grind
theorem Qcm{a b:Rat}(ha:0<=a)(hb:0<=b): 0<=a*b:=Rat.mul_nonneg ha hb
def pck(n:Nat)(A:Nat->Nat->Rat): QT:=⟨λi j=>if j<n then A i j else if j-n=i then 1 else 0,λ_=>1,λj=>if j<n then -1 else 0,0,λi=>n+i⟩
theorem Jyl(n m:Nat)(A:Nat->Nat->Rat): WF m (n+m) (pck n A):=by
 refine⟨λi hi=>by simp only[pck];omega,λi k hi u=>?_,λi hi=>?_⟩
 .simp only[pck];rw[if_neg om,show n+i-n=i by omega];by_cases e:k=i
  .rw[if_pos e,if_pos e.symm]
  rw[if_neg e,if_neg (λh=>e h.symm)]
 simp only[pck];rw[if_neg om]
theorem Jlj(n m:Nat)(A:Nat->Nat->Rat): Kf m (pck n A):=λi hi=>by simp only[pck];grind
theorem Qyj{A:Nat->Nat->Rat}(h0:∀ i j,i<m->j<n->0<=A i j)(h1:∀ j,j<n->∃ i,i<m/\A i j=1): Bnd m (n+m) (pck n A):=λS O D he Z c F hg=>by
 rcases Classical.em (∃ i,i<m/\0<S.a i c) with h|h
 .exact h
 exfalso
 have J:=Z.sol _ (Uu O F 2);have y:∀ j,0<=S.pt m c 2 j:=λj=>by
  unfold QT.pt;have:0<=Jc m λi=>if S.β i=j then S.b i-S.a i c*2 else 0:=Jvh λi hi=>by
   split
   .have G:=D i hi;have u:S.a i c<=0:=by
     rcases Rat.le_total (a:=S.a i c) (b:=0) with k|k
     .exact k
     by_cases e:S.a i c=0
     .grind
     exact absurd ⟨i,hi,by grind⟩ h
    grind
   grind
  split<;>grind
 have U:2<=S.pt m c 2 c:=by
  unfold QT.pt;have:0<=Jc m λi=>if S.β i=c then S.b i-S.a i c*2 else 0:=Jvh λi hi=>by
   split
   .have G:=D i hi;have u:S.a i c<=0:=by
     rcases Rat.le_total (a:=S.a i c) (b:=0) with k|k
     .exact k
     by_cases e:S.a i c=0
     .grind
     exact absurd ⟨i,hi,by grind⟩ h
    grind
   grind
  rw[if_pos rfl];grind
 have key:∀ i,i<m->(pck n A).a i c=1->False:=λi hi e=>by
  have k:=J i hi;have u:(pck n A).a i c*S.pt m c 2 c<=Jc (n+m) λj=>(pck n A).a i j*S.pt m c 2 j:=Qxz (f:=λj=>(pck n A).a i j*S.pt m c 2 j) (λj hj=>Qcm (by
   simp only[pck];split
   .rename_i hj2;exact h0 i j hi hj2
   split<;>grind) (y j)) F
  rw[k,e]at u;simp only[pck]at u;grind
 by_cases e:c<n
 .obtain⟨i,hi,e1⟩:=h1 c e;exact key i hi (by simp only[pck];rw[if_pos e,e1])
 exact key (c-n) om (by simp only[pck];rw[if_neg e];simp)
end Bl
def Xp(A:List (List PR)): Nat->Nat->Rat:=λi j=>((A.getD i []).getD j pr0).val
theorem Jqv{α:Type}(d:α)(l k:List α)(j:Nat): (l++k).getD j d=if j<l.length then l.getD j d else k.getD (j-l.length) d:=by
 by_cases h:j<l.length
 .rw[if_pos h];simp[List.getD,List.getElem?_append_left h]
 rw[if_neg h];simp[List.getD,List.getElem?_append_right (Nat.le_of_not_lt h)]
theorem Jzl: (PR.int 1).val=1:=by decide +kernel
theorem Jhz: (PR.int (-1)).val = -1:=by decide +kernel
theorem Iw: pr0.val=0:=by decide +kernel
theorem Jqm: ∀ i,i<A.length->(PT.ofP n A).rows.getD i []=A.getD i []++(List.range A.length).map (λk=>if k=i then PR.int 1 else pr0)++[PR.int (-1),PR.int 1]:=λi hi=>by
 unfold PT.ofP;exact Jkm [] [] _ hi
theorem Ig(hA:∀ i,i<A.length->ROk n (A.getD i [])): ∀ i j,i<A.length->((PT.ofP n A).rows.getD i []).getD j pr0=if j<n then(A.getD i []).getD j pr0 else if j<n+A.length then(if j-n=i then PR.int 1 else pr0) else if j=n+A.length then PR.int (-1) else if j=n+A.length+1 then PR.int 1 else pr0:=λi j hi=>by
 have u:=(hA i hi).1;rw[Jqm i hi,Jqv];simp only[List.length_append,u,List.length_map,List.length_range];by_cases h1:j<n
 .rw[if_pos om,if_pos h1,Jqv,u,if_pos h1]
 rw[if_neg h1];by_cases h2:j<n+A.length
 .rw[if_pos h2,if_pos h2,Jqv,u,if_neg h1,Xy pr0 (by simp;omega)];simp
 rw[if_neg h2,if_neg h2];by_cases h3:j=n+A.length
 .rw[if_pos h3,h3,Nat.sub_self];rfl
 rw[if_neg h3];by_cases h4:j=n+A.length+1
 .rw[if_pos h4,h4,show n+A.length+1-(n+A.length)=1 by omega];rfl
 rw[if_neg h4];obtain⟨d,y⟩:∃ d,j-(n+A.length)=d+2:=⟨j-(n+A.length)-2,om⟩;rw[y];rfl
theorem Jzt: ∀ j,(PT.ofP n A).goal.getD j pr0=if j<n then PR.int (-1) else pr0:=λj=>by
 simp only[PT.ofP];rw[Jqv,List.length_replicate];by_cases h1:j<n
 .rw[if_pos h1,if_pos h1,Xy pr0 (by simpa using h1)];simp
 rw[if_neg h1,if_neg h1];by_cases h2:j-n<A.length+2
 .rw[Xy pr0 (by simpa using h2)];simp
 simp[List.getD,List.getElem?_eq_none (show(List.replicate (A.length+2) pr0).length<=j-n by simp;omega)]
theorem Qbn(hA:∀ i,i<A.length->ROk n (A.getD i [])): Agr (PT.ofP n A) (pck n (Xp A)):=by
 have G:=Jqm (n:=n) (A:=A);have D:=Ig hA;have y:=Jzt (n:=n) (A:=A);have F:pr0.den≠0:=by decide
 refine⟨⟨by simp[PT.ofP],λi hi=>⟨?_,λj J=>?_⟩,⟨by simp[PT.ofP,PT.right];omega,λj J=>?_⟩,by simp[PT.ofP]⟩,λi j hi J=>?_,λi hi=>?_,λj J=>?_,?_,λi hi=>?_⟩
 .have u:i<A.length:=hi;rw[G i u,List.length_append,List.length_append,(hA i u).1];simp[PT.right,PT.ofP]
 .have u:i<A.length:=hi;rw[D i j u];split
  .rename_i h1;exact(hA i u).2 j h1
  split
  .split
   .decide
   exact F
  split
  .decide
  split
  .decide
  exact F
 .rw[y];split
  .decide
  exact F
 .have u:i<A.length:=hi;have O:j<n+A.length:=J;rw[D i j u];simp only[pck];by_cases h1:j<n
  .rw[if_pos h1,if_pos h1];rfl
  rw[if_neg h1,if_pos O,if_neg h1];split
  .exact Jzl
  exact Iw
 .have u:i<A.length:=hi;rw[D i _ u];have e:(PT.ofP n A).right=n+A.length+1:=rfl;rw[e,if_neg om,if_neg om,if_neg om,if_pos rfl];exact Jzl
 .rw[y];simp only[pck];split
  .exact Jhz
  exact Iw
 .have e:(PT.ofP n A).right=n+A.length+1:=rfl;rw[y,e,if_neg om];exact Iw
 have u:i<A.length:=hi;simp only[PT.ofP,pck];rw[Xy 0 (by simpa using u)];simp
end Go.Proofs.YtebiphhfkdbpfaaGreat
namespace Go.Proofs.YtebiphhfkdbpfaaGreat.Bl
variable {j k l m n:Nat}{b f x:Nat->Rat}
abbrev MQ:= Nat->Nat->Rat
def Qr(k:Nat)(M:MQ): MQ:=λi j=>M (i+1) (if j<k then j else j+1)
def sg(j:Nat): Rat:=if j % 2=0 then 1 else -1
def det: Nat->MQ->Rat
 | 0,_=>1
 | m+1,M=>Jc (m+1) λj=>sg j*M 0 j*det m (Qr j M)
theorem Qzt(k:Nat): sg (k+1) = -sg k:=by
 unfold sg;by_cases h:k % 2=0
 .rw[if_pos h,if_neg om]
 rw[if_neg h,if_pos om];grind
theorem Jxd: ∀ {m:Nat} {M N:MQ},(∀ i j,i<m->j<m->M i j=N i j)->det m M=det m N
 | 0,_,_,_=>rfl
 | m+1,M,N,h=>by
  rw[det,det];refine Uo λj hj=>?_;rw[h 0 j om hj,Jxd (m:=m) (M:=Qr j M) (N:=Qr j N) λi k hi hk=>by
   unfold Qr;split<;>exact h _ _ om om]
def Jt(M:MQ)(k:Nat)(v:Nat->Rat): MQ:=λi j=>if j=k then v i else M i j
theorem Jbz(M:MQ)(k:Nat)(v:Nat->Rat): Qr k (Jt M k v)=Qr k M:=by
 funext i j
 simp only[Qr,Jt];rw[if_neg (by split<;>omega)]
theorem Jcb(M:MQ)(h:j≠k)(v:Nat->Rat): Qr j (Jt M k v)=Jt (Qr j M) (if k<j then k else k-1) (λi=>v (i+1)):=by
 funext i l
 simp only[Qr,Jt];by_cases e:l=if k<j then k else k-1
 .rw[if_pos e,if_pos (by split at e<;>split<;>omega)]
 rw[if_neg e,if_neg (by split at e<;>split<;>omega)]
theorem Kw: ∀ {m:Nat} (M:MQ) {k:Nat} (hk:k<m) (u w:Nat->Rat) (s:Rat),det m (Jt M k λi=>u i+s*w i)=det m (Jt M k u)+s*det m (Jt M k w)
 | 0,_,_,hk,_,_,_=>by omega
 | m+1,M,k,hk,u,w,s=>by
  rw[det,det,det,<-Gf,<-Jvj];refine Uo λj hj=>?_;by_cases e:j=k
  .subst e;rw[Jbz,Jbz,Jbz];simp only[Jt,if_true];grind
  rw[Jcb M e,Jcb M e,Jcb M e,Kw (m:=m) (Qr j M) (k:=if k<j then k else k-1) (by split<;>omega) (λi=>u (i+1)) (λi=>w (i+1)) s];simp only[Jt,if_neg e];grind
theorem Qxv(hk:k+1<n)(h:∀ j,j<n->j≠k->j≠k+1->f j=0): Jc n f=f k+f (k+1):=by
 induction n with
 | zero=>omega
 | succ n ih=>
  rw[Jc];by_cases e:n=k+1
  .subst e;rw[Ue (c:=k) om λj y u=>h j om u om]
  rw[ih om λj y F D=>h j om F D,h n om om om];grind
theorem Jwb: ∀ {m:Nat} {M:MQ} {k:Nat},k+1<m->(∀ i,i<m->M i k=M i (k+1))->det m M=0
 | 0,_,_,hk,_=>by omega
 | m+1,M,k,hk,h=>by
  rw[det,Qxv (k:=k) hk]
  .have e:det m (Qr k M)=det m (Qr (k+1) M):=Jxd λi j hi hj=>by
    simp only[Qr];by_cases e1:j<k
    .rw[if_pos e1,if_pos om]
    by_cases e2:j=k
    .subst e2;rw[if_neg e1,if_pos om];exact(h (i+1) om).symm
    rw[if_neg e1,if_neg om]
   rw[e,Qzt,h 0 om];grind
  intro j hj h1 h2;have:det m (Qr j M)=0:=by
   by_cases e:j<k
   .refine Jwb (k:=k-1) om λi hi=>?_;simp only[Qr];rw[if_neg om,if_neg om,show k-1+1=k by omega];exact h (i+1) om
   refine Jwb (k:=k) om λi hi=>?_;simp only[Qr];rw[if_pos om,if_pos om];exact h (i+1) om
  rw[this];grind
theorem Jvn(M:MQ)(k:Nat): Jt M k (λi=>M i k)=M:=by
 funext i j;simp only[Jt];split
 .rename_i h;rw[h]
 rfl
theorem Ko(M:MQ)(h:k≠l)(u w:Nat->Rat): Jt (Jt M k u) l w=Jt (Jt M l w) k u:=by
 funext i j;simp only[Jt]
 by_cases e:j=l
 .rw[if_pos e,if_neg om,if_pos e]
 rw[if_neg e];split<;>rfl
theorem Qht(M:MQ)(hk:k+1<m)(u w:Nat->Rat): det m (Jt (Jt M k u) (k+1) w) = -det m (Jt (Jt M k w) (k+1) u):=by
 have z:∀ v:Nat->Rat,det m (Jt (Jt M k v) (k+1) v)=0:=λv=>Jwb hk λi hi=>by simp[Jt]
 have h:=z (λi=>u i+1*w i);rw[Kw _ hk,Ko M om _ u,Ko M om _ w,Kw _ om,Kw _ om]at h;rw[Ko (k:=k+1) (l:=k) M om u u,Ko (k:=k+1) (l:=k) M om w w,Ko (k:=k+1) (l:=k) M om u w,Ko (k:=k+1) (l:=k) M om w u,z,z]at h;grind
theorem Jcd{m:Nat}: ∀ {d:Nat} {M:MQ} {k:Nat},k+1+d<m->(∀ i,i<m->M i k=M i (k+1+d))->det m M=0
 | 0,M,k,hk,h=>Jwb hk h
 | d+1,M,k,hk,h=>by
  have e:M=Jt (Jt M (k+1+d) λi=>M i (k+1+d)) (k+1+d+1) λi=>M i (k+1+d+1):=by
   rw[Jvn,Jvn]
  rw[e,Qht M om];rw[Jcd (d:=d) (k:=k) om λi hi=>by
   simp only[Jt];rw[if_neg om,if_neg om,if_neg om,if_pos trivial];exact h i hi]
  grind
theorem Qhw{M:MQ}(hk:k<m)(hl:l<m)(hne:k≠l)(h:∀ i,i<m->M i k=M i l): det m M=0:=by
 rcases Nat.lt_or_gt_of_ne hne with e|e
 .exact Jcd (d:=l-k-1) (k:=k) om λi hi=>by rw[show k+1+(l-k-1)=l by omega];exact h i hi
 exact Jcd (d:=k-l-1) (k:=l) om λi hi=>by rw[show l+1+(k-l-1)=k by omega];exact(h i hi).symm
theorem Kv{M:MQ}(hk:k<m)(h:∀ i,i<m->Jc m (λj=>M i j*x j)=b i): det m (Jt M k b)=x k*det m M:=by
 have z0:det m (Jt M k λ_=>0)=0:=by
  have h0:=Kw M hk (λ_=>0) (λ_=>0) 1;have e:(λ_:Nat=>(0:Rat)+1*0)=λ_=>0:=by funext i;grind
  rw[e]at h0;grind
 have key:∀ J,J<=m->det m (Jt M k λi=>Jc J λj=>M i j*x j)=Jc J λj=>x j*det m (Jt M k λi=>M i j):=by
  intro J;induction J with
  | zero=>intro _;simp only[Jc];exact z0
  | succ J ih=>
   intro D;simp only[Jc];rw[<-ih om,<-Kw M hk];congr 2;funext i;grind
 have e:det m (Jt M k b)=det m (Jt M k λi=>Jc m λj=>M i j*x j):=Jxd λi j hi y=>by
  simp only[Jt];split
  .exact(h i hi).symm
  rfl
 rw[e,key m (nR _),Ue hk,Jvn];intro j y u;rw[Qhw (k:=k) (l:=j) hk y (λh=>u h.symm) λi hi=>by
  simp only[Jt,if_true];rw[if_neg u]]
 grind
end Go.Proofs.YtebiphhfkdbpfaaGreat.Bl
namespace Go.Proofs.YtebiphhfkdbpfaaGreat.Bl
variable {B C c i k r:Nat}{S T0:QT}{p q:Rat}
variable {m n:Nat}
def fct: Nat->Nat
 | 0=>1
 | m+1=>(m+1)*fct m
def isI(q:Rat)(B:Nat): Prop:=∃ z:Int,q=z/\z.natAbs<=B
theorem isI.mono(h:isI q B)(hc:B<=C): isI q C:=by
 obtain⟨z,e,u⟩:=h;exact⟨z,e,om⟩
theorem isI.mul(h:isI p B)(k:isI q C): isI (p*q) (B*C):=by
 obtain⟨z,rfl,u⟩:=h;obtain⟨w,rfl,y⟩:=k;exact⟨z*w,by rw[Rat.intCast_mul],by rw[Int.natAbs_mul];exact Nat.mul_le_mul u y⟩
theorem isI.add(h:isI p B)(k:isI q C): isI (p+q) (B+C):=by
 obtain⟨z,rfl,u⟩:=h;obtain⟨w,rfl,y⟩:=k;exact⟨z+w,by rw[Rat.intCast_add],om⟩
theorem isI.neg(h:isI p B): isI (-p) B:=by
 obtain⟨z,rfl,u⟩:=h;exact⟨-z,by rw[Rat.intCast_neg],om⟩
theorem Jbj{f:Nat->Rat}(h:∀ j,j<k->isI (f j) B): isI (Jc k f) (k*B):=by
 induction k with
 | zero=>exact⟨0,rfl,by simp⟩
 | succ k ih=>
  have:=(ih λj u=>h j om).add (h k om);rw[Nat.succ_mul];exact this
theorem Jbk(j:Nat): isI (sg j) 1:=by
 unfold sg;split
 .exact⟨1,rfl,by simp⟩
 exact⟨-1,rfl,by simp⟩
theorem Gz: ∀ {m:Nat} {M:MQ},(∀ i j,i<m->j<m->isI (M i j) 1)->isI (det m M) (fct m)
 | 0,_,_=>⟨1,rfl,by simp[fct]⟩
 | m+1,M,h=>by
  rw[det,fct];refine Jbj λj hj=>?_;have h1:=((Jbk j).mul (h 0 j om hj)).mul (Gz (m:=m) (M:=Qr j M) λi k hi hk=>by
   unfold Qr;split<;>exact h _ _ om om)
  exact h1.mono (by simp)
theorem Jrd: ∀ {m:Nat} {M:MQ},(∀ i j,i<m->j<m->M i j=if i=j then 1 else 0)->det m M=1
 | 0,_,_=>rfl
 | m+1,M,h=>by
  rw[det,Ue (c:=0) om]
  .rw[Jrd (m:=m) (M:=Qr 0 M) λi j hi hj=>by
    simp only[Qr];rw[if_neg om,h _ _ om om];by_cases e:i=j
    .rw[if_pos e,if_pos om]
    rw[if_neg e,if_neg om],h 0 0 om om]
   simp[sg]
  intro j hj hne;rw[h 0 j om hj,if_neg (λh=>hne h.symm)];grind
def bas(T0 S:QT): MQ:=λi k=>T0.a i (S.β k)
theorem Ky(hw:WF m n S)(he:Eqv m n S T0)(hc:c<n)(hi:i<m): Jc m (λk=>bas T0 S i k*S.a k c)=T0.a i c/\Jc m (λk=>bas T0 S i k*S.b k)=T0.b i:=by
 have h0:=he.sol _ (Uu hw hc 0) i hi;have u:=he.sol _ (Uu hw hc 1) i hi;rw[Gr hw hc]at h0 u;have e:Jc m (λk=>T0.a i (S.β k)*(S.b k-S.a k c*1))=Jc m (λk=>T0.a i (S.β k)*(S.b k-S.a k c*0))-1*Jc m (λk=>T0.a i (S.β k)*S.a k c):=by
  rw[<-Jqc];congr 1;funext k;grind
 have y:Jc m (λk=>T0.a i (S.β k)*(S.b k-S.a k c*0))=Jc m (λk=>T0.a i (S.β k)*S.b k):=by
  congr 1;funext k;grind
 rw[e]at u;rw[y]at h0 u;unfold bas;exact⟨by grind,by grind⟩
theorem Qhv(hw:WF m n S)(he:Eqv m n S T0)(hr:r<m)(hc:c<n): det m (bas T0 (S.pivot r c))=S.a r c*det m (bas T0 S):=by
 rw[<-Kv (M:=bas T0 S) (x:=λk=>S.a k c) (b:=λi=>T0.a i c) hr λi hi=>(Ky hw he hc hi).1];refine Jxd λi j hi u=>?_;simp only[bas,Jt,QT.pivot];split<;>rfl
def isQ(q:Rat)(B D:Nat): Prop:=∃ a d:Rat,isI a B/\isI d D/\d≠0/\q=a / d
theorem Qgz(h0:∀ i j,i<m->j<n->isI (T0.a i j) 1)(h1:∀ i,i<m->isI (T0.b i) 1)(hw:WF m n S)(he:Eqv m n S T0)(hd:det m (bas T0 S)≠0)(hn:0<n): (∀ k c,k<m->c<n->isQ (S.a k c) (fct m) (fct m))/\∀ k,k<m->isQ (S.b k) (fct m) (fct m):=by
 have D:∀ i j,i<m->j<m->isI (bas T0 S i j) 1:=λi j hi u=>h0 i _ hi (hw.lt j u);have G:=Gz D;refine⟨λk c y F=>⟨_,_,Gz (M:=Jt (bas T0 S) k λi=>T0.a i c) λi j hi u=>?_,G,hd,?_⟩,λk y=>⟨_,_,Gz (M:=Jt (bas T0 S) k λi=>T0.b i) λi j hi u=>?_,G,hd,?_⟩⟩
 .simp only[Jt];split
  .exact h0 i c hi F
  exact D i j hi u
 .rw[Kv (x:=λk=>S.a k c) y λi hi=>(Ky hw he F hi).1];grind
 .simp only[Jt];split
  .exact h1 i hi
  exact D i j hi u
 rw[Kv (x:=λk=>S.b k) y λi hi=>(Ky hw he hn hi).2];grind
theorem Qwt(h0:∀ i j,i<m->j<n->isI (T0.a i j) 1)(h2:∀ j,j<n->isI (T0.g j) 1)(hw:WF m n S)(he:Eqv m n S T0)(hd:det m (bas T0 S)≠0): ∀ c,c<n->isQ (S.g c) (fct (m+1)) (fct m):=λc u=>by
 have G:∀ i j,i<m->j<m->isI (bas T0 S i j) 1:=λi j hi D=>h0 i _ hi (hw.lt j D);have F:=Gz G;refine⟨T0.g c*det m (bas T0 S) + -(Jc m λk=>T0.g (S.β k)*det m (Jt (bas T0 S) k λi=>T0.a i c)),_,?_,F,hd,?_⟩
 .refine(((h2 c u).mul F).add (Jbj (B:=fct m) λk y=>?_).neg).mono (by rw[fct,Nat.add_mul];omega);exact((h2 _ (hw.lt k y)).mul (Gz λi j hi D=>by
   simp only[Jt];split
   .exact h0 i c hi u
   exact G i j hi D)).mono (by simp)
 have h:=Jyg hw he u;rw[Uo (g:=λk=>det m (bas T0 S)*(T0.g (S.β k)*S.a k c)) λk y=>by
  rw[Kv (x:=λk=>S.a k c) y λi hi=>(Ky hw he u hi).1];grind]
 rw[Gf];grind
end Go.Proofs.YtebiphhfkdbpfaaGreat.Bl
namespace Go.Proofs.YtebiphhfkdbpfaaGreat
open Bl
variable {B D c k r:Nat}
structure PR.Nrm(a:PR): Prop where
 den:a.den≠0
 cop:Nat.gcd a.num a.den=1
 sgn:a.num=0->a.neg=false
theorem PR.norm_nrm{a:PR}(h:a.den≠0): a.norm.Nrm:=by
 refine⟨(PR.norm_val h).2,?_,?_⟩
 .unfold PR.norm;split
  .simp
  rename_i h1;have u:0<Nat.gcd a.num a.den:=Nat.gcd_pos_of_pos_left _ om;simp only;rw[Nat.gcd_div (Nat.gcd_dvd_left _ _) (Nat.gcd_dvd_right _ _),Nat.div_self u]
 unfold PR.norm;split
 .intro e;simp only at e ⊢;rw[e];simp
 rename_i h1;intro e;simp only at e;obtain⟨x,y⟩:=Nat.gcd_dvd_left a.num a.den;have u:0<Nat.gcd a.num a.den:=Nat.gcd_pos_of_pos_left _ om;rw[Nat.div_eq_zero_iff]at e;have:=Nat.le_of_dvd om (Nat.gcd_dvd_left a.num a.den);omega
theorem PR.int_nrm(z:Int): (PR.int z).Nrm:=⟨by simp[PR.int],by simp[PR.int],λe=>by
 simp only[PR.int]at e ⊢;simp only[decide_eq_false_iff_not];omega⟩
theorem Jqg: pr0.Nrm:=⟨by decide,by decide,λ_=>rfl⟩
theorem PR.Nrm.norm{a:PR}(h:a.Nrm): a.norm=a:=by
 unfold PR.norm;by_cases e:a.num=0
 .rw[if_pos (.inl e)];have u:=h.cop;rw[e,Nat.gcd_zero_left]at u;have y:=h.sgn e;cases a;simp_all
 rw[if_neg (by have:=h.den;omega),h.cop];simp
theorem PR.addN_nrm{a b:PR}(ha:a.den≠0)(hb:b.den≠0): (PR.addN a b).Nrm:=by
 have u:a.den*b.den≠0:=Nat.mul_ne_zero ha hb;unfold PR.addN;split
 .exact PR.norm_nrm u
 split<;>exact PR.norm_nrm u
theorem PR.sub_nrm{a b:PR}(ha:a.den≠0)(hb:b.den≠0): (PR.sub a b).Nrm:=PR.addN_nrm (PR.norm_val ha).2 (PR.norm_val (PR.opp_val hb).2).2
theorem PR.mul_nrm{a b:PR}(ha:a.den≠0)(hb:b.den≠0): (PR.mul a b).Nrm:=PR.norm_nrm (Nat.mul_ne_zero (PR.norm_val ha).2 (PR.norm_val hb).2)
theorem PR.div_nrm{a b:PR}(ha:a.den≠0)(hb:b.den≠0)(h0:b.val≠0): (PR.div a b).Nrm:=by
 have u:=PR.norm_val hb;have hn:b.norm.num≠0:=λe=>h0 (by
  rw[<-u.1];have:=Vl u.2;simp only[PR.val,e];split<;>grind)
 unfold PR.div;rw[if_neg hn];exact PR.mul_nrm ha hn
theorem PR.Nrm.le{a:PR}(h:a.Nrm)(hq:isQ a.val B D): a.num<=B/\a.den<=D:=by
 obtain⟨_,_,⟨p,rfl,hp⟩,⟨q,rfl,J⟩,h0,u⟩:=hq;have O:q≠0:=λe=>h0 (by rw[e];rfl);have hd:=Vl h.den;have key:∃ z:Int,z.natAbs=a.num/\z*q=p*a.den:=by
  unfold PR.val at u;cases hn:a.neg
  .refine⟨a.num,by simp,?_⟩;rw[hn]at u;simp only[Bool.false_eq_true,if_false]at u;rw[<-Rat.intCast_inj,Rat.intCast_mul,Rat.intCast_mul,Rat.intCast_natCast,Rat.intCast_natCast];grind
  refine⟨-a.num,by simp,?_⟩;rw[hn]at u;simp only[if_true]at u;rw[<-Rat.intCast_inj,Rat.intCast_mul,Rat.intCast_mul,Rat.intCast_neg,Rat.intCast_natCast,Rat.intCast_natCast];grind
 obtain⟨z,G,e⟩:=key;have y:a.num*q.natAbs=p.natAbs*a.den:=by
  rw[<-G,<-Int.natAbs_mul,e,Int.natAbs_mul];simp
 have F:Nat.Coprime a.num a.den:=h.cop;have Z:a.den ∣ q.natAbs:=(F.symm).dvd_of_dvd_mul_left (⟨p.natAbs,by rw[y,Nat.mul_comm]⟩);have U:a.num ∣ p.natAbs:=F.dvd_of_dvd_mul_right (⟨q.natAbs,y.symm⟩);have l1:=Nat.le_of_dvd om Z;refine⟨?_,om⟩;by_cases ep:p=0
 .rw[ep]at y;have:a.num*q.natAbs=0:=by rw[y];simp
  rcases Nat.mul_eq_zero.1 this with k|k
  .omega
  omega
 have:=Nat.le_of_dvd om U;omega
structure PNm(t:PT): Prop where
 row:∀ i j,i<t.m->j<t.right+1->((t.rows.getD i []).getD j pr0).Nrm
 goal:∀ j,j<t.right+1->(t.goal.getD j pr0).Nrm
theorem Jsc{row other:List PR}{f:PR}(hr:ROk k row)(ho:ROk k other)(hf:f.den≠0)(hn:∀ j,j<k->(row.getD j pr0).Nrm): ∀ j,j<k->((Xe row other f).getD j pr0).Nrm:=λj u=>by
 unfold Xe;split
 .exact hn j u
 have y:(List.zipWith (λa b=>if b.sign≠0 then PR.sub a (PR.mul f b) else a) row other).length=k:=by rw[List.length_zipWith,hr.1,ho.1,Nat.min_self]
 have key:(List.zipWith (λa b=>if b.sign≠0 then PR.sub a (PR.mul f b) else a) row other).getD j pr0=if(other.getD j pr0).sign≠0 then PR.sub (row.getD j pr0) (PR.mul f (other.getD j pr0)) else row.getD j pr0:=by
  rw[Xy pr0 om,Xy pr0 (l:=row) (by rw[hr.1];exact u),Xy pr0 (l:=other) (by rw[ho.1];exact u)];simp
 rw[key];split
 .exact PR.sub_nrm (hr.2 j u) (PR.mul_val hf (ho.2 j u)).2
 exact hn j u
theorem Qhd{row:List PR}{d:PR}(hr:ROk k row)(hd:d.den≠0)(h0:d.val≠0)(hn:∀ j,j<k->(row.getD j pr0).Nrm): ∀ j,j<k->((dvR row d).getD j pr0).Nrm:=λj u=>by
 have key:(dvR row d).getD j pr0=if(row.getD j pr0).sign≠0 then PR.div (row.getD j pr0) d else row.getD j pr0:=by
  have y:(dvR row d).length=k:=by rw[dvR,List.length_map,hr.1]
  rw[Xy pr0 om,Xy pr0 (l:=row) (by rw[hr.1];exact u)];simp[dvR]
 rw[key];split
 .exact PR.div_nrm (hr.2 j u) hd h0
 exact hn j u
theorem Qvw{t:PT}{T:QT}(h:Agr t T)(hn:PNm t)(hr:r<t.m)(hc:c<t.n+t.m)(h0:T.a r c≠0): PNm (t.pivot r c):=by
 have J:=h.ok.row r hr;have y:c<t.right+1:=by unfold PT.right;omega
 have F:((t.rows.getD r []).getD c pr0).val≠0:=by rw[h.a r c hr hc];exact h0
 have O:=(Jbx J (J.2 c y) F).1;refine⟨λi j hi D=>?_,λj D=>Jsc h.ok.goal O (h.ok.goal.2 c y) hn.goal j D⟩;have u:i<t.m:=hi;have G:j<t.right+1:=D;have e:(t.pivot r c).rows.getD i []=if i=r then dvR (t.rows.getD r []) ((t.rows.getD r []).getD c pr0) else Xe (t.rows.getD i []) (dvR (t.rows.getD r []) ((t.rows.getD r []).getD c pr0)) ((t.rows.getD i []).getD c pr0):=by
  unfold PT.pivot;exact Jkm [] [] _ (by rw[h.ok.rows];exact u)
 rw[e];split
 .exact Qhd J (J.2 c y) F (λj D=>hn.row r j hr D) j G
 exact Jsc (h.ok.row i u) O ((h.ok.row i u).2 c y) (λj D=>hn.row i j u D) j G
open Bl
variable {c m n r:Nat}{t:PT}{S T T0:QT}
namespace Bl
theorem z_isQ{m n:Nat}{T0 S:QT}(h0:∀ i j,i<m->j<n->isI (T0.a i j) 1)(h1:∀ i,i<m->isI (T0.b i) 1)(h2:∀ j,j<n->isI (T0.g j) 1)(hz:T0.z=0)(hw:WF m n S)(he:Eqv m n S T0)(hd:det m (bas T0 S)≠0)(hn:0<n): isQ S.z (fct (m+1)) (fct m):=by
 have F:∀ i j,i<m->j<m->isI (bas T0 S i j) 1:=λi j hi D=>h0 i _ hi (hw.lt j D);have u:=he.val _ (Uu hw hn 0);rw[Jzk hw hn]at u;unfold QT.val at u;rw[Gr hw hn 0 T0.g,hz]at u;have e:Jc m (λk=>T0.g (S.β k)*(S.b k-S.a k 0*0))=Jc m λk=>T0.g (S.β k)*S.b k:=by congr 1;funext k;grind
 rw[e]at u;refine⟨-(Jc m λk=>T0.g (S.β k)*det m (Jt (bas T0 S) k λi=>T0.b i)),_,?_,Gz F,hd,?_⟩
 .refine(Jbj (B:=fct m) λk y=>?_).neg.mono (by rw[fct,Nat.add_mul];omega);exact((h2 _ (hw.lt k y)).mul (Gz λi j hi D=>by
   simp only[Jt];split
   .exact h1 i hi
   exact F i j hi D)).mono (by simp)
 rw[Uo (g:=λk=>det m (bas T0 S)*(T0.g (S.β k)*S.b k)) λk y=>by
  rw[Kv (x:=λk=>S.b k) y λi hi=>(Ky hw he hn hi).2];grind]
 rw[Gf];grind
theorem isQ.neg{q:Rat}{B D:Nat}(h:isQ q B D): isQ (-q) B D:=by
 obtain⟨a,d,y,u,h0,e⟩:=h;exact⟨-a,d,y.neg,u,h0,by rw[e];grind⟩
theorem isQ.mono{q:Rat}{B C D:Nat}(h:isQ q B D)(k:B<=C): isQ q C D:=by
 obtain⟨a,d,y,u,h0,e⟩:=h;exact⟨a,d,y.mono k,u,h0,e⟩
theorem Jks(m:Nat): fct m<=fct (m+1):=by rw[fct,Nat.add_mul];omega
end Bl
structure Art(t:PT): Prop where
 row:∀ i,i<t.m->((t.rows.getD i []).getD (t.n+t.m) pr0).val = -((t.rows.getD i []).getD t.right pr0).val
 goal:(t.goal.getD (t.n+t.m) pr0).val = -(t.goal.getD t.right pr0).val
theorem Qpc(h:Agr t T)(ha:Art t)(hr:r<t.m)(hc:c<t.n+t.m)(h0:T.a r c≠0): Art (t.pivot r c):=by
 have O:=h.ok.row r hr;have F:c<t.right+1:=by unfold PT.right;omega
 have y:t.right<t.right+1:=om
 have u:t.n+t.m<t.right+1:=by unfold PT.right;omega
 have G:((t.rows.getD r []).getD c pr0).val≠0:=by rw[h.a r c hr hc];exact h0
 obtain⟨U,dv⟩:=Jbx O (O.2 c F) G;have J:=Jwd h.ok.goal U (h.ok.goal.2 c F);refine⟨λi hi=>?_,?_⟩
 .have D:i<t.m:=hi;have e:(t.pivot r c).rows.getD i []=if i=r then dvR (t.rows.getD r []) ((t.rows.getD r []).getD c pr0) else Xe (t.rows.getD i []) (dvR (t.rows.getD r []) ((t.rows.getD r []).getD c pr0)) ((t.rows.getD i []).getD c pr0):=by
   unfold PT.pivot;exact Jkm [] [] _ (by rw[h.ok.rows];exact D)
  have er:(t.pivot r c).right=t.right:=rfl;have Z:(t.pivot r c).n+(t.pivot r c).m=t.n+t.m:=rfl;rw[e,er,Z];split
  .rw[dv _ u,dv _ y,ha.row r hr];grind
  have hc:=Jwd (h.ok.row i D) U ((h.ok.row i D).2 c F);rw[hc.2 _ u,hc.2 _ y,dv _ u,dv _ y,ha.row r hr,ha.row i D];grind
 refine(J.2 _ u).trans (Eq.trans ?_ (congrArg (- ·) (J.2 _ y).symm))
 rw[dv _ u,dv _ y,ha.row r hr,ha.goal];grind
structure PSt(n m:Nat)(T0:QT)(t:PT)(S:QT): Prop where
 agr:Agr t S
 nrm:PNm t
 art:Art t
 em:t.m=m
 en:t.n=n
 wf:WF m (n+m) S
 feas:Kf m S
 e1:Eqv m (n+m) T0 S
 e2:Eqv m (n+m) S T0
 det:det m (bas T0 S)≠0
theorem PSt.pivot(h:PSt n m T0 t S)(hB:Bst m (n+m) S r c): PSt n m T0 (t.pivot r c) (S.pivot r c):=by
 obtain⟨D,hn,y,rfl,rfl,F,J,U,G,O⟩:=h;have u:S.a r c≠0:=by have:=hB.pos;grind
 refine⟨Qph D hB.rm hB.cn u,Qvw D hn hB.rm hB.cn u,Qpc D y hB.rm hB.cn u,rfl,rfl,Jdw F hB.rm hB.cn u,Jps hB J,U.trans (Jpw hB.rm u),(Jpx hB.rm u).trans G,?_⟩;rw[Qhv F G hB.rm hB.cn];intro e;rcases Rat.mul_eq_zero.1 e with e|e
 .exact u e
 exact O e
theorem PSt.next(h:PSt n m T0 t S)(hb:Bnd m (n+m) T0)(hc:t.enter (n+m)=some c): c<n+m/\∃ r,t.leaving c=some r/\r<m/\Bst m (n+m) S r c/\PSt n m T0 (t.pivot r c) (S.pivot r c):=by
 have G:=Jpz h.agr (cols:=n+m) (by rw[h.em,h.en];exact nR _);rw[hc]at G;obtain⟨y,O,h3⟩:=G;obtain⟨i,hi,D⟩:=hb _ h.wf h.feas h.e1 h.e2 c y O;have u:=Jmv h.agr (c:=c) (by rw[h.em,h.en];exact y) t.m (nR _);rw[h.em]at u;cases hq:lvS t c m with
 | none=>rw[hq]at u;exact absurd D (u i hi)
 | some p=>
  obtain⟨r,q⟩:=p;rw[hq]at u;obtain⟨F,Z,v3,v4,U⟩:=u;have J:Bst m (n+m) S r c:=⟨F,y,O,h3,Z,U⟩;exact⟨y,r,by unfold PT.leaving;rw[h.agr.ok.rows,h.em,hq];rfl,F,J,h.pivot J⟩
theorem PSt.small(h:PSt n m T0 t S)(h0:∀ i j,i<m->j<n+m->isI (T0.a i j) 1)(h1:∀ i,i<m->isI (T0.b i) 1)(h2:∀ j,j<n+m->isI (T0.g j) 1)(hz:T0.z=0)(hnm:0<n+m): (∀ i j,i<m->j<n+m+2->((t.rows.getD i []).getD j pr0).num<=fct (m+1)/\((t.rows.getD i []).getD j pr0).den<=fct m)/\∀ j,j<n+m+2->(t.goal.getD j pr0).num<=fct (m+1)/\(t.goal.getD j pr0).den<=fct m:=by
 obtain⟨y,hn,u,rfl,rfl,D,hf,e1,G,F⟩:=h;obtain⟨Z,O⟩:=Qgz h0 h1 D G F hnm;have U:=Qwt h0 h2 D G F;have J:=z_isQ h0 h1 h2 hz D G F hnm;have er:t.right=t.n+t.m+1:=rfl;refine⟨λi j hi hj=>(hn.row i j hi om).le ?_,λj hj=>(hn.goal j om).le ?_⟩
 .by_cases c1:j<t.n+t.m
  .rw[y.a i j hi c1];exact(Z i j hi c1).mono (Jks _)
  by_cases c2:j=t.right
  .rw[c2,y.b i hi];exact(O i hi).mono (Jks _)
  rw[show j=t.n+t.m by omega,u.row i hi,y.b i hi];exact((O i hi).mono (Jks _)).neg
 by_cases c1:j<t.n+t.m
 .rw[y.g j c1];exact U j c1
 by_cases c2:j=t.right
 .rw[c2,y.z];exact J
 rw[show j=t.n+t.m by omega,u.goal,y.z];exact J.neg
open Bl
variable {A:List (List PR)}{fuel i j n:Nat}
def Bin(n:Nat)(A:List (List PR)): Prop:=∀ i,i<A.length->(A.getD i []).length=n/\∀ j,j<n->(A.getD i []).getD j pr0=pr0∨(A.getD i []).getD j pr0=PR.int 1
theorem Bin.rok(h:Bin n A): ∀ i,i<A.length->ROk n (A.getD i []):=λi hi=>⟨(h i hi).1,λj u=>by
 rcases(h i hi).2 j u with e|e<;>rw[e]<;>decide⟩
theorem Bin.mat(h:Bin n A)(hi:i<A.length)(hj:j<n): Xp A i j=0∨Xp A i j=1:=by
 unfold Xp;rcases(h i hi).2 j hj with e|e<;>rw[e]
 .exact .inl Iw
 exact .inr Jzl
theorem Qyh(h:Bin n A): (∀ i j,i<A.length->j<n+A.length->isI ((pck n (Xp A)).a i j) 1)/\(∀ i,i<A.length->isI ((pck n (Xp A)).b i) 1)/\∀ j,j<n+A.length->isI ((pck n (Xp A)).g j) 1:=by
 have y:isI 0 1:=⟨0,rfl,by simp⟩;have u:isI 1 1:=⟨1,rfl,by simp⟩;refine⟨λi j hi D=>?_,λi hi=>u,λj D=>?_⟩
 .simp only[pck];split
  .rename_i h1;rcases h.mat hi h1 with e|e<;>rw[e]
   .exact y
   exact u
  split
  .exact u
  exact y
 simp only[pck];split
 .exact u.neg
 exact y
theorem PSt.start(h:Bin n A): PSt n A.length (pck n (Xp A)) (PT.ofP n A) (pck n (Xp A)):=by
 have y:=PR.int_nrm 1;have J:=PR.int_nrm (-1);refine⟨Qbn h.rok,⟨λi j hi D=>?_,λj D=>?_⟩,⟨λi hi=>?_,?_⟩,rfl,rfl,Jyl _ _ _,Jlj _ _ _,Eqv.refl _,Eqv.refl _,?_⟩
 .have u:i<A.length:=hi;rw[Ig h.rok i j u];split
  .rename_i h1;rcases(h i u).2 j h1 with e|e<;>rw[e]
   .exact Jqg
   exact y
  split
  .split
   .exact y
   exact Jqg
  split
  .exact J
  split
  .exact y
  exact Jqg
 .rw[Jzt];split
  .exact J
  exact Jqg
 .have u:i<A.length:=hi;have G:(PT.ofP n A).n+(PT.ofP n A).m=n+A.length:=rfl;have F:(PT.ofP n A).right=n+A.length+1:=rfl;rw[Ig h.rok i _ u,Ig h.rok i _ u,G,F,if_neg om,if_neg om,if_pos rfl,if_neg om,if_neg om,if_neg om,if_pos rfl,Jhz,Jzl]
 .have G:(PT.ofP n A).n+(PT.ofP n A).m=n+A.length:=rfl;have F:(PT.ofP n A).right=n+A.length+1:=rfl;rw[Jzt,Jzt,G,F,if_neg om,if_neg om,Iw];grind
 rw[Jrd λi j hi D=>by unfold bas;rw[(Jyl n A.length (Xp A)).unit j i D hi]];simp
theorem PSt.ends{n m:Nat}{T0:QT}(hb:Bnd m (n+m) T0): ∀(fuel:Nat) {K:Nat} {T:Nat->QT} {R C:Nat->Nat} {t:PT},Run m (n+m) K T R C->T 0=T0->PSt n m T0 t (T K)->(n+m)^m<=K+fuel->∃ t' S,PT.maxim (n+m) fuel t=some t'/\PSt n m T0 t' S/\∀ j,j<n+m->0<=S.g j
 | 0,K,T,R,C,t,h,h0,hs,hf=>by have:=h.short;omega
 | fuel+1,K,T,R,C,t,h,h0,hs,hf=>by
  cases hl:t.enter (n+m) with
  | none=>
   have he:=Jpz hs.agr (cols:=n+m) (by rw[hs.em,hs.en];exact nR _);rw[hl]at he;exact⟨t,T K,by simp only[PT.maxim,hl],hs,he⟩
  | some c=>
   obtain⟨hc,r,hlv,hr,hB,hn⟩:=hs.next hb hl;have hrun:Run m (n+m) (K+1) (λk=>if k<=K then T k else(T K).pivot r c) (λk=>if k<K then R k else r) (λk=>if k<K then C k else c):=by
    refine⟨by simp only[Nat.zero_le,if_true];exact h.w0,by simp only[Nat.zero_le,if_true];exact h.f0,λk hk=>?_,λk hk=>?_⟩
    .rw[if_pos (show k<=K by omega)];by_cases e:k<K
     .rw[if_pos e,if_pos e];exact h.st k e
     rw[if_neg e,if_neg e,show k=K by omega];exact hB
    rw[if_pos (show k<=K by omega)];by_cases e:k<K
    .rw[if_pos e,if_pos e,if_pos (show k+1<=K by omega)];exact h.nx k e
    rw[if_neg e,if_neg e,if_neg (show¬ k+1<=K by omega),show k=K by omega]
   obtain⟨t',S,g1,g2⟩:=PSt.ends hb fuel (t:=t.pivot r c) hrun (by simp only[Nat.zero_le,if_true];exact h0) (by
    simp only[if_neg (show¬ K+1<=K by omega)];exact hn) om
   exact⟨t',S,by simp only[PT.maxim,hl,hlv];exact g1,g2⟩
theorem Jln(h:Bin n A)(h1:∀ j,j<n->∃ i,i<A.length/\Xp A i j=1)(hf:(n+A.length)^A.length<=fuel): Bnd A.length (n+A.length) (pck n (Xp A))/\∃ t' S,PT.maxim (n+A.length) fuel (PT.ofP n A)=some t'/\PSt n A.length (pck n (Xp A)) t' S/\∀ j,j<n+A.length->0<=S.g j:=by
 have u:Bnd A.length (n+A.length) (pck n (Xp A)):=Qyj (λi j hi D=>by rcases h.mat hi D with e|e<;>rw[e]<;>grind) h1;exact⟨u,PSt.ends u fuel (K:=0) (T:=λ_=>pck n (Xp A)) (R:=λ_=>0) (C:=λ_=>0) ⟨Jyl _ _ _,Jlj _ _ _,λk y=>om,λk y=>om⟩ rfl (PSt.start h) om⟩
open Bl
namespace Bl
def bpt(m:Nat)(S:QT)(v:Nat): Rat:=Jc m λi=>if S.β i=v then S.b i else 0
end Bl
theorem PSt.dual{n m:Nat}{T0 S:QT}{t:PT}(h:PSt n m T0 t S): t.dual.length=m/\∀ i,i<m->(t.dual.getD i pr0).val=S.g (n+i):=by
 obtain⟨D,hn,y,rfl,rfl,G,J,e1,Z,O⟩:=h;have F:=D.ok.goal.1;have U:t.right=t.n+t.m+1:=rfl;have u:t.dual.length=t.m:=by unfold PT.dual;rw[List.length_take,List.length_drop,F];omega
 refine⟨u,λi hi=>?_⟩;rw[<-D.g (t.n+i) om,Xy pr0 om,Xy pr0 (l:=t.goal) om];simp[PT.dual]
theorem PSt.point{n m:Nat}{T0 S:QT}{t:PT}(h:PSt n m T0 t S): t.point.length=n/\∀ v,v<n->(t.point.getD v pr0).val=bpt m S v:=by
 obtain⟨y,hn,G,rfl,rfl,U,hf,e1,e2,hd⟩:=h;have hl:=y.ok.basis;have u:t.point.length=t.n:=by simp[PT.point]
 refine⟨u,λv hv=>?_⟩;rw[Xy pr0 om];simp only[PT.point,List.getElem_map,List.getElem_range];unfold bpt;cases hq:(List.range t.basis.length).reverse.find? λi=>t.basis.getD i 0 == v with
 | none=>
  simp only[];rw[Iw,Jqb];intro i hi;have:=List.find?_eq_none.1 hq i (by simp;omega);rw[y.β i hi]at this;rw[if_neg (by simpa using this)]
 | some i=>
  simp only[];have O:=List.find?_some hq;have D:i<t.m:=by
   have:=List.mem_of_find?_eq_some hq;simp at this;omega
  rw[y.β i D]at O;have J:S.β i=v:=by simpa using O
  rw[y.b i D,Ue D λk Z F=>by
   rw[if_neg (λe=>F (U.inj Z D (by rw[e,J])))],if_pos J]
end Go.Proofs.YtebiphhfkdbpfaaGreat
namespace Go.Proofs.YtebiphhfkdbpfaaGreat.Bl
variable {k m:Nat}
def cnt: Nat->(Nat->Bool)->Nat
 | 0,_=>0
 | m+1,P=>cnt m P+(P m).toNat
theorem Jrr: ∀ {m:Nat} {P Q:Nat->Bool},(∀ j,j<m->P j=Q j)->cnt m P=cnt m Q
 | 0,_,_,_=>rfl
 | m+1,P,Q,h=>by rw[cnt,cnt,Jrr λj hj=>h j om,h m om]
def skp(j l:Nat): Nat:=if l<j then l else l+1
theorem Jck{P:Nat->Bool}{j:Nat}: ∀ {m:Nat},j<=m->cnt m (λl=>P (skp j l))+(P j).toNat=cnt (m+1) P
 | 0,h=>by(obtain rfl:j=0:=by omega);(simp[cnt])
 | m+1,h=>by
  by_cases e:j=m+1
  .subst e;rw[Jrr (Q:=P) λl hl=>by rw[skp,if_pos hl]];simp[cnt]
  have ih:=Jck (P:=P) (j:=j) (m:=m) om;rw[cnt,cnt];have:skp j m=m+1:=by rw[skp,if_neg om]
  rw[this];omega
theorem Jxb{p:Nat}: ∀ {q:Nat},p<=q->fct p<=fct q
 | 0,h=>by(obtain rfl:p=0:=by omega);(exact nR _)
 | q+1,h=>by
  by_cases e:p=q+1
  .rw[e];exact nR _
  have:=Jxb (p:=p) (q:=q) om;have h2:fct q<=fct (q+1):=by rw[fct,Nat.add_mul];omega
  omega
theorem Jbh{B:Nat}{f:Nat->Rat}{P:Nat->Bool}: ∀ {k:Nat},(∀ j,j<k->P j=true->isI (f j) B)->(∀ j,j<k->P j=false->f j=0)->isI (Jc k f) (cnt k P*B)
 | 0,_,_=>⟨0,rfl,by simp⟩
 | k+1,h,z=>by
  have ih:=Jbh (k:=k) (λj hj=>h j om) λj hj=>z j om;rw[Jc,cnt];cases e:P k with
  | true=>exact(ih.add (h k om e)).mono (by rw[Nat.add_mul];simp)
  | false=>
   rw[z k om e];have:Jc k f+0=Jc k f:=by grind
   rw[this];exact ih.mono (by simp)
theorem Qhs{M:MQ}(hk:k<m)(h:∀ i,i<m->M i k=0): det m M=0:=by
 have h0:=Kw M hk (λ_=>0) (λ_=>0) 1;have e:(λ_:Nat=>(0:Rat)+1*0)=λ_=>0:=by funext i;grind
 rw[e]at h0;have u:det m M=det m (Jt M k λ_=>0):=Jxd λi j hi y=>by
  simp only[Jt];split
  .rename_i hj2;rw[hj2];exact h i hi
  rfl
 rw[u];grind
def Uni(m:Nat)(M:MQ)(j:Nat): Prop:=∃ r,∀ i,i<m->M i j=if i=r then 1 else 0
theorem Jcc: ∀ {m:Nat} {M:MQ} {P:Nat->Bool},(∀ i j,i<m->j<m->isI (M i j) 1)->(∀ j,j<m->P j=false->Uni m M j)->isI (det m M) (fct (cnt m P))
 | 0,_,_,_,_=>⟨1,rfl,by simp[fct,cnt]⟩
 | m+1,M,P,h,hu=>by
  have hd:∀ j,j<m+1->isI (det m (Qr j M)) (fct (cnt m λl=>P (skp j l))):=λj hj=>Jcc (λi k hi hk=>by
   unfold Qr;split<;>exact h _ _ om om) λl hl hp=>by
   have hs:skp j l<m+1:=by unfold skp;split<;>omega
   obtain⟨r,hr⟩:=hu _ hs hp;refine⟨if r=0 then m else r-1,λi hi=>?_⟩;have:=hr (i+1) om;simp only[Qr];unfold skp at this;rw[this];by_cases e:r=0
   .rw[if_pos e,if_neg om,if_neg om]
   rw[if_neg e];by_cases e2:i+1=r
   .rw[if_pos e2,if_pos om]
   rw[if_neg e2,if_neg om]
  rw[det];rcases Classical.em (∃ j,j<m+1/\P j=false/\M 0 j=1) with⟨j,hj,hp,h1⟩|hno
  .obtain⟨r,hr⟩:=hu j hj hp;have hr0:r=0:=by
    have:=hr 0 om;by_cases e:r=0
    .exact e
    rw[if_neg (λh=>e h.symm),h1]at this;simp at this
   rw[Ue hj λl hl hne=>by
    rw[Qhs (m:=m) (M:=Qr l M) (k:=if j<l then j else j-1) (by split<;>omega) λi hi=>by
     simp only[Qr];have e:(if(if j<l then j else j-1)<l then(if j<l then j else j-1) else(if j<l then j else j-1)+1)=j:=by
      by_cases e:j<l
      .rw[if_pos e,if_pos e]
      rw[if_neg e,if_neg om];omega
     rw[e,hr (i+1) om,if_neg om]]
    grind]
   have hc:=Jck (P:=P) (m:=m) (j:=j) om;rw[hp]at hc;have h2:=((Jbk j).mul (h 0 j om hj)).mul (hd j hj);exact h2.mono (by rw[<-hc];simp)
  have hz:∀ j,j<m+1->P j=false->sg j*M 0 j*det m (Qr j M)=0:=λj hj hp=>by
   obtain⟨r,hr⟩:=hu j hj hp;have h0:=hr 0 om;have:M 0 j=0:=by
    by_cases e:0=r
    .rw[if_pos e]at h0;exact absurd ⟨j,hj,hp,h0⟩ hno
    rw[if_neg e]at h0;exact h0
   rw[this];grind
  have ht:∀ j,j<m+1->P j=true->isI (sg j*M 0 j*det m (Qr j M)) (fct (cnt (m+1) P-1)):=λj hj hp=>by
   have hc:=Jck (P:=P) (m:=m) (j:=j) om;rw[hp]at hc;have e:cnt (m+1) P-1=cnt m λl=>P (skp j l):=by rw[<-hc];simp
   rw[e];exact(((Jbk j).mul (h 0 j om hj)).mul (hd j hj)).mono (by simp)
  have hs:=Jbh ht hz;refine hs.mono ?_;cases e:cnt (m+1) P with
  | zero=>simp
  | succ q=>simp[fct]
end Go.Proofs.YtebiphhfkdbpfaaGreat.Bl
namespace Go.Proofs.YtebiphhfkdbpfaaGreat
open Bl
namespace Bl
variable {B k m n:Nat}
theorem Jrq{P:Nat->Bool}: ∀ m,cnt m P=((List.range m).filter P).length
 | 0=>rfl
 | m+1=>by
  rw[cnt,Jrq m,List.range_succ,List.filter_append,List.length_append];cases e:P m<;>simp[e]
theorem cnt_le{P:Nat->Bool}{f:Nat->Nat}(h:∀ k,k<m->P k=true->f k<n)(hi:∀ k l,k<m->l<m->P k=true->P l=true->f k=f l->k=l): cnt m P<=n:=by
 rw[Jrq,<-List.length_map (f:=f)];refine Jzz n ?_ λu D=>?_
 .unfold List.Nodup;rw[List.pairwise_map];have hn:((List.range m).filter P).Pairwise (λa b=>a<b):=List.Pairwise.filter _ List.pairwise_lt_range;refine hn.imp_of_mem fun {a b} ha hb hab e=>?_
  simp only[List.mem_filter,List.mem_range]at ha hb;have:=hi a b ha.1 hb.1 ha.2 hb.2 e;omega
 obtain⟨k,y,rfl⟩:=List.mem_map.1 D;simp only[List.mem_filter,List.mem_range]at y;exact h k y.1 y.2
variable {n m:Nat} {A:MQ} {S:QT}
theorem Jtc(hw:WF m (n+m) S)(hk:k<m)(h:¬ S.β k<n): Uni m (bas (pck n A) S) k:=⟨S.β k-n,λi hi=>by
 simp only[bas,pck];rw[if_neg h];by_cases e:S.β k-n=i
 .rw[if_pos e,if_pos e.symm]
 rw[if_neg e,if_neg (λh=>e h.symm)]⟩
theorem Qnr(h0:∀ i j,i<m->j<n+m->isI ((pck n A).a i j) 1)(hw:WF m (n+m) S): isI (det m (bas (pck n A) S)) (fct n):=by
 refine(Jcc (P:=λk=>decide (S.β k<n)) (λi j hi y=>h0 i _ hi (hw.lt j y)) λj y u=>Jtc hw y (by simpa using u)).mono (Jxb (cnt_le (f:=S.β) (λk D u=>by simpa using u) λk l D F _ _ e=>hw.inj D F e))
theorem Jwl(h0:∀ i j,i<m->j<n+m->isI ((pck n A).a i j) 1)(hw:WF m (n+m) S)(hk:k<m){v:Nat->Rat}(hv:∀ i,i<m->isI (v i) 1): isI (det m (Jt (bas (pck n A) S) k v)) (fct (n+1)):=by
 refine(Jcc (P:=λl=>l == k || decide (S.β l<n)) (λi j hi F=>?_) λj F u=>?_).mono (Jxb (cnt_le (f:=λl=>if l=k then n else S.β l) (λl G u=>?_) λl J G D u y e=>?_))
 .simp only[Jt];split
  .exact hv i hi
  exact h0 i _ hi (hw.lt j F)
 .simp only[Bool.or_eq_false_iff,beq_eq_false_iff_ne,decide_eq_false_iff_not]at u;obtain⟨r,O⟩:=Jtc (A:=A) hw F u.2;exact⟨r,λi hi=>by simp only[Jt];rw[if_neg u.1];exact O i hi⟩
 .simp only[Bool.or_eq_true,beq_iff_eq,decide_eq_true_eq]at u;split<;>omega
 simp only[Bool.or_eq_true,beq_iff_eq,decide_eq_true_eq]at u y;by_cases e1:l=k<;>by_cases e2:J=k
 .omega
 .rw[if_pos e1,if_neg e2]at e;omega
 .rw[if_neg e1,if_pos e2]at e;omega
 rw[if_neg e1,if_neg e2]at e;exact hw.inj G D e
theorem Jtd(hw:WF m (n+m) S){f:Nat->Rat}(hf:∀ k,k<m->isI (f k) B): isI (Jc m λk=>(pck n A).g (S.β k)*f k) (n*B):=by
 refine(Jbh (P:=λk=>decide (S.β k<n)) (B:=B) (λk y u=>?_) λk y u=>?_).mono (nO B (cnt_le (f:=S.β) (λk y u=>by simpa using u) λk l y D _ _ e=>hw.inj y D e))
 .simp only[pck];rw[if_pos (by simpa using u)];exact(isI.mul (p:=-1) (B:=1) ⟨-1,rfl,by simp⟩ (hf k y)).mono (by simp)
 simp only[pck];rw[if_neg (by simpa using u)];grind
end Bl
theorem PSt.few{n m:Nat}{A:MQ}{S:QT}{t:PT}(h:PSt n m (pck n A) t S)(h0:∀ i j,i<m->j<n+m->isI ((pck n A).a i j) 1)(hnm:0<n+m): (∀ i j,i<m->j<n+m+2->((t.rows.getD i []).getD j pr0).num<=fct (n+1)/\((t.rows.getD i []).getD j pr0).den<=fct n)/\∀ j,j<n+m+2->(t.goal.getD j pr0).num<=(n+1)*fct (n+1)/\(t.goal.getD j pr0).den<=fct n:=by
 obtain⟨G,hn,F,rfl,rfl,y,hf,e1,Z,U⟩:=h;have er:t.right=t.n+t.m+1:=rfl;have J:=Qnr h0 y;have i1:∀ i,i<t.m->isI ((pck t.n A).b i) 1:=λi hi=>⟨1,rfl,by simp⟩;have cA:∀ k c,k<t.m->c<t.n+t.m->Bl.det t.m (Jt (bas (pck t.n A) S) k λi=>(pck t.n A).a i c)=S.a k c*Bl.det t.m (bas (pck t.n A) S):=λk c u D=>Kv (x:=λk=>S.a k c) u λi hi=>(Ky y Z D hi).1;have cB:∀ k,k<t.m->Bl.det t.m (Jt (bas (pck t.n A) S) k λi=>(pck t.n A).b i)=S.b k*Bl.det t.m (bas (pck t.n A) S):=λk u=>Kv (x:=λk=>S.b k) u λi hi=>(Ky y Z hnm hi).2;have k1:∀ k c,k<t.m->c<t.n+t.m->isQ (S.a k c) (fct (t.n+1)) (fct t.n):=λk c u D=>⟨_,_,Jwl h0 y u λi hi=>h0 i c hi D,J,U,by rw[cA k c u D];grind⟩;have k2:∀ k,k<t.m->isQ (S.b k) (fct (t.n+1)) (fct t.n):=λk u=>⟨_,_,Jwl h0 y u i1,J,U,by rw[cB k u];grind⟩;have a1:fct t.n<=fct (t.n+1):=Jks _;have k3:∀ c,c<t.n+t.m->isQ (S.g c) ((t.n+1)*fct (t.n+1)) (fct t.n):=λc D=>by
  refine⟨(pck t.n A).g c*Bl.det t.m (bas (pck t.n A) S) + -(Jc t.m λk=>(pck t.n A).g (S.β k)*Bl.det t.m (Jt (bas (pck t.n A) S) k λi=>(pck t.n A).a i c)),_,?_,J,U,?_⟩
  .have hg:isI ((pck t.n A).g c) 1:=by
    simp only[pck];split
    .exact⟨-1,rfl,by simp⟩
    exact⟨0,rfl,by simp⟩
   exact((hg.mul J).add (Jtd y λk u=>Jwl h0 y u λi hi=>h0 i c hi D).neg).mono (by rw[Nat.add_mul];omega)
  have h:=Jyg y Z D;rw[Uo (g:=λk=>Bl.det t.m (bas (pck t.n A) S)*((pck t.n A).g (S.β k)*S.a k c)) λk u=>by rw[cA k c u D];grind];rw[Gf];grind
 have k4:isQ S.z ((t.n+1)*fct (t.n+1)) (fct t.n):=by
  have O:=Z.val _ (Uu y hnm 0);rw[Jzk y hnm]at O;unfold QT.val at O;rw[Gr y hnm 0 (pck t.n A).g]at O;have e:Jc t.m (λk=>(pck t.n A).g (S.β k)*(S.b k-S.a k 0*0))=Jc t.m λk=>(pck t.n A).g (S.β k)*S.b k:=by congr 1;funext k;grind
  have ez:(pck t.n A).z=0:=rfl;rw[e,ez]at O;refine⟨-(Jc t.m λk=>(pck t.n A).g (S.β k)*Bl.det t.m (Jt (bas (pck t.n A) S) k λi=>(pck t.n A).b i)),_,(Jtd y λk u=>Jwl h0 y u i1).neg.mono (by rw[Nat.add_mul];omega),J,U,?_⟩;rw[Uo (g:=λk=>Bl.det t.m (bas (pck t.n A) S)*((pck t.n A).g (S.β k)*S.b k)) λk u=>by rw[cB k u];grind];rw[Gf];grind
 refine⟨λi j hi hj=>(hn.row i j hi om).le ?_,λj hj=>(hn.goal j om).le ?_⟩
 .by_cases c1:j<t.n+t.m
  .rw[G.a i j hi c1];exact k1 i j hi c1
  by_cases c2:j=t.right
  .rw[c2,G.b i hi];exact k2 i hi
  rw[show j=t.n+t.m by omega,F.row i hi,G.b i hi];exact(k2 i hi).neg
 by_cases c1:j<t.n+t.m
 .rw[G.g j c1];exact k3 j c1
 by_cases c2:j=t.right
 .rw[c2,G.z];exact k4
 rw[show j=t.n+t.m by omega,F.goal,G.z];exact k4.neg
namespace Nw
variable {n p x:Nat}
theorem Jdg(z x:Int)(hz:0<=z)(hx:0<=x): ∀ n:Nat,((n:Int)+1)*z*x^n<=z^(n+1)+n*x^(n+1)
 | 0=>by simp[Int.pow_succ]
 | n+1=>by
  have ih:=Jdg z x hz hx n;have h1:z*(((n:Int)+1)*z*x^n)<=z*(z^(n+1)+n*x^(n+1)):=Int.mul_le_mul_of_nonneg_left ih hz;have h2:0<=((n:Int)+1)*x^n*((x-z)*(x-z)):=Int.mul_nonneg (Int.mul_nonneg om (Int.pow_nonneg hx)) (by
   rcases Int.le_total 0 (x-z) with h|h
   .exact Int.mul_nonneg h h
   have:=Int.mul_nonneg (show 0<=-(x-z) by omega) (show 0<=-(x-z) by omega);rwa [Int.neg_mul_neg]at this)
  have e:z^(n+1+1)+((n+1:Nat):Int)*x^(n+1+1)-(((n+1:Nat):Int)+1)*z*x^(n+1)=(z*(z^(n+1)+n*x^(n+1))-z*(((n:Int)+1)*z*x^n))+((n:Int)+1)*x^n*((x-z)*(x-z)):=by
   rw[Int.natCast_add];grind
  omega
def Jxl(p n x:Nat): Prop:=x^n<=p/\p<(x+1)^n
theorem Qkx{y:Nat}(hx:Jxl p n x)(hy:Jxl p n y): x=y:=by
 rcases Nat.lt_trichotomy x y with h|h|h
 .have:=Nat.pow_le_pow_left (show x+1<=y by omega) n;have:=hx.2;have:=hy.1;omega
 .exact h
 have:=Nat.pow_le_pow_left (show y+1<=x by omega) n;have:=hy.2;have:=hx.1;omega
def step(p n x:Nat): Nat:=((n-1)*x+p / x^(n-1)) / n
theorem Jfv(hn:0<n)(hx:0<x): p<(step p n x+1)^n:=by
 obtain⟨k,rfl⟩:∃ k,n=k+1:=⟨n-1,om⟩;simp only[step,Nat.add_sub_cancel];generalize hq:p / x^k=q
 generalize hy:(k*x+q) / (k+1)=y
 have u:0<x^k:=Nat.pow_pos hx;have U:p<(q+1)*x^k:=by
  have:=Nat.div_add_mod p (x^k);have:=Nat.mod_lt p u;rw[hq]at *;grind
 have O:k*x+q+1<=(k+1)*(y+1):=by
  have:=Nat.div_add_mod (k*x+q) (k+1);have:=Nat.mod_lt (k*x+q) (show 0<k+1 by omega);rw[hy]at *;grind
 have D:=Jdg ((y+1:Nat):Int) (x:Int) om om k;have J:(((q+1)*x^k+k*x^(k+1):Nat):Int)<=(((k+1)*(y+1)*x^k:Nat):Int):=by
  have:=nO (x^k) O;have e:(k*x+q+1)*x^k=(q+1)*x^k+k*x^(k+1):=by grind
  rw[e]at this;exact Int.ofNat_le.2 this
 have G:(((k+1)*(y+1)*x^k:Nat):Int)=((k:Int)+1)*((y+1:Nat):Int)*(x:Int)^k:=by
  rw[Int.natCast_mul,Int.natCast_mul,Int.natCast_add,Int.natCast_pow];rfl
 have F:(((y+1)^(k+1)+k*x^(k+1):Nat):Int)=((y+1:Nat):Int)^(k+1)+(k:Int)*(x:Int)^(k+1):=by
  rw[Int.natCast_add,Int.natCast_mul,Int.natCast_pow,Int.natCast_pow]
 rw[<-G,<-F]at D;have:=Int.ofNat_le.1 (Int.le_trans J D);omega
theorem Qzj(hn:0<n)(hx:0<x)(h:x<=step p n x): x^n<=p:=by
 obtain⟨k,rfl⟩:∃ k,n=k+1:=⟨n-1,om⟩;simp only[step,Nat.add_sub_cancel]at h;have y:x*(k+1)<=k*x+p / x^k:=(Nat.le_div_iff_mul_le om).1 h;have u:x<=p / x^k:=by grind
 have:=(Nat.le_div_iff_mul_le (Nat.pow_pos hx)).1 u;rw[Nat.pow_succ];grind
theorem Qzk(hn:1<n)(hp:0<p)(hx:0<x): 0<step p n x:=by
 have h:=Jfv (p:=p) (n:=n) om hx;rcases Nat.eq_zero_or_pos (step p n x) with h0|h0
 .rw[h0,Nat.zero_add,Nat.one_pow]at h;omega
 exact h0
end Nw
open Go.RowKit Pl Go.Wk
attribute [local irreducible] WC WL QX WD WDB WP WN WG WH
variable {b2 m n:Nat}{q:PR}{a p u v y:Value}{w w' w1:World}
def RtX(N:Nat->Prop)(w:World)(v:Value)(q:PR): Prop:=∃ x y,v=.agg #[.bool q.neg,x,y]/\NatX N w x q.num/\NatX N w y q.den
def RtC(N:Nat->Prop)(w:World)(cs:List Value)(q:PR): Prop:=∃ x y,cs=[.bool q.neg,x,y]/\NatX N w x q.num/\NatX N w y q.den
section
variable {N N':Nat->Prop} {w w':World} {v:Value} {cs:List Value} {q:PR}
theorem RtX.gr(h:RtX N w v q)(hg:GrN N w w'): RtX N w' v q:=by
 obtain⟨x,y,e,D,u⟩:=h;exact⟨x,y,e,D.gr hg,u.gr hg⟩
theorem RtX.ext(h:RtX N w v q)(hx:Ext w w'): RtX N w' v q:=h.gr (GrN.ext hx)
theorem RtX.old(h:RtX N w v q)(hN:∀ k,N' k->N k∨w.heap.size<=k): RtX N' w v q:=by
 obtain⟨x,y,e,D,u⟩:=h;exact⟨x,y,e,D.old hN,u.old hN⟩
theorem RtC.sta: Sta RtC:=⟨λh F=>by
 obtain⟨x,y,e,D,u⟩:=h;exact⟨x,y,e,D.gr F,u.gr F⟩,λh G=>by
 obtain⟨x,y,e,D,u⟩:=h;exact⟨x,y,e,D.old G,u.old G⟩⟩
theorem RtX.c(h:RtX N w v q): ∃ cs,v=.agg cs.toArray/\RtC N w cs q:=by
 obtain⟨x,y,e,D,u⟩:=h;exact⟨_,e,x,y,rfl,D,u⟩
theorem RtC.x(h:RtC N w cs q): RtX N w (.agg cs.toArray) q:=by
 obtain⟨x,y,rfl,D,u⟩:=h;exact⟨x,y,rfl,D,u⟩
end
theorem Qdv(h:n≠0): Jv n=32*((Jj n).length-1)+Jv ((Jj n).getD ((Jj n).length-1) 0).toNat:=by
 obtain⟨l,c,F,U⟩:=Jnd h;have hc:c.toNat≠0:=λe=>U (UInt32.toNat_inj.1 e);have y:=Zf n;rw[F,Uq]at y;simp only[Pl.val,Nat.mul_zero,Nat.add_zero]at y;have u:=Jjt l;have G:4294967296^l.length=2^(32*l.length):=by rw[Nat.pow_mul]
 rw[G]at y u;have J:0<2^(32*l.length):=Nat.two_pow_pos _;have e1:(Jj n).length-1=l.length:=by rw[F];simp
 have Z:(Jj n).getD l.length 0=c:=by rw[F];simp[List.getD]
 rw[e1,Z];have D:2^(32*l.length)<=n:=by
  have:=Nat.mul_le_mul_left (2^(32*l.length)) (show 1<=c.toNat by omega);omega
 have O:n / 2^(32*l.length)=c.toNat:=by
  rw[<-y,Nat.add_mul_div_left _ _ J,Nat.div_eq_of_lt u,Nat.zero_add]
 rw[Io D,O]
theorem Yv(hv:NatV w v n)(hs:(Jj n).length<=1000): Ret Tryz.prog 102 [v] w λr w'=>r=.int .i64 (Jv n:Int)/\w'=w:=by
 refine Jz Tryz.func102 Tryz.ntmps102 rfl kr rfl ?_;refine ρ ?_;refine cl (Zt hv) ?_;rintro D w' ⟨⟨A,rfl,u⟩,rfl⟩;refine ρ ?_;refine ci (λh=>?_) (λh=>?_)
 .have h0:n=0:=by
   have:=oT h;rcases Nat.eq_zero_or_pos n with h1|h1
   .exact h1
   have:=limbs_pos' (n:=n) om;omega
  subst h0;refine ρ ?_;exact Jq ⟨rfl,rfl⟩
 have y:0<(Jj n).length:=by
  have:=oF h;omega
 have h0:n≠0:=Jnc y;refine ρ ?_;refine ix ((Jj n).length-1) u om ?_;refine ρ ?_;refine ld (u.cell (Xk (show(Jj n).length-1<(Jj n).length by omega))) ?_;refine ρ ?_;refine cl (Qdz _ (UInt32.toNat_lt _) w') ?_;rintro _ w1 ⟨rfl,rfl⟩;have:=Yb (x:=((Jj n).getD ((Jj n).length-1) 0).toNat) (k:=32) (UInt32.toNat_lt _);refine ρ ?_;refine Jq ⟨congrArg (Value.int .i64) ?_,rfl⟩;rw[Qdv h0];omega
abbrev Ol(w:World): Nat->Prop:=λk=>k<w.heap.size
theorem NatX.ol(h:NatX (Ol w1) w' v n)(hx:Ext w w1): NatX (Ol w) w' v n:=h.old λk u=>.inl (nM u hx.size)
theorem RtX.ol(h:RtX (Ol w1) w' v q)(hx:Ext w w1): RtX (Ol w) w' v q:=h.old λk u=>.inl (nM u hx.size)
theorem Fresh.o(h:Fresh w v)(hn:NatV w' v n): NatX (Ol w) w' v n:=h.x hn λ_ u=>u
theorem NatV.one(h:NatV w v n): v.oneCell'=true:=by obtain⟨A,c,rfl,_⟩:=h;rfl
def SF.nx(N:Nat->Prop)(n:Nat): SF:=⟨λv w=>NatX N w v n,λh hx=>h.ext hx⟩
theorem Xn(n:Nat)(h:n<18446744073709551616)(w:World): Ret Tryz.prog 30 [.int .u64 (n:Int)] w λv w'=>NatX (Ol w) w' v n/\Ext w w':=by
 refine Jz Tryz.func30 Tryz.ntmps30 rfl kr rfl ?_;refine ρ ?_;refine Zs rfl rfl (by decide) rfl ?_;refine ρ ?_;refine bsl (bsN _ _) ?_;intro w1 b y F u;rw[Yz,Jfk]at u;have D:Rd w1 1 (some ⟨b,0,none⟩) 2 (Nc [UInt32.ofNat n,UInt32.ofNat (n / 4294967296)]):=u.rd rfl;refine ρ ?_;refine cl (Gc (l:=[UInt32.ofNat n,UInt32.ofNat (n / 4294967296)]) (c:=2) D (nR _) (by simp)) ?_;rintro v w2 ⟨rfl,rfl⟩;have:=Ka D (by simp);rw[Jfd n h]at this ⊢;refine ρ ?_;exact Jq ⟨⟨this,λ_ J _ _ e G=>by grind⟩,y⟩
theorem Ip(hv:NatV w v n)(hu:NatV w u m)(hn:(Jj n).length<=1000)(h0:0<m)(hm:m<4294967296):
  Ret Tryz.prog 94 [v,u] w λr w'=>(∃ x y,r=.tuple #[x,y,.int .i64 0]/\NatX (Ol w) w' x (n / m)/\NatX (Ol w) w' y (n % m))/\Ext w w':=by
 have O:Jj m=[UInt32.ofNat m]:=Jnb om hm;refine Jz Tryz.func94 Tryz.ntmps94 rfl kr rfl ?_;refine ρ ?_;refine cl (Zt hv) ?_;rintro v' w' ⟨⟨A,rfl,ha⟩,rfl⟩;refine ρ ?_;refine cl (Zt hu) ?_;rintro u' G ⟨⟨B,rfl,hb⟩,rfl⟩;rw[O]at hb ⊢;refine ρ ?_;refine cl (Jqp (n:=n) (m:=m) ⟨A,_,rfl,Nat.le_refl _,om,ha⟩ ⟨B,1,by rw[O],by rw[O];simp,by rw[O];simp,by rw[O];exact hb⟩) ?_;rintro t w' ⟨rfl,D⟩;refine ρ ?_;refine ci (λh=>?_) (λh=>?_)
 .have a2:n<m:=by
   have:=oT h;unfold Vg at this;grind
  refine ρ ?_;refine cl (Jcn (ha.ext D) (Jwr _) om) ?_;rintro v' w1 ⟨ho,hx⟩;obtain⟨A',c',rfl,hc,hf⟩:=Jy ho;refine ρ ?_;refine fin3 ⟨⟨.slice none 0 0,_,rfl,?_,?_⟩,D.trans hx⟩
  .rw[Nat.div_eq_of_lt a2];exact NatX.nil _
  rw[Nat.mod_eq_of_lt a2];exact⟨⟨A',c',rfl,hc,om,Rd.own ho⟩,λ_ ad m c e hk=>by
   injection e with e1 e2 e3
   subst e1;have:=(hf ad.block rfl).1;have:=D.size;have a6:ad.block<G.heap.size:=hk;omega⟩
 refine ρ ?_;refine cl (Jcn (ha.ext D) (Jwr _) om) ?_;rintro q w1 ⟨ho,a1⟩;obtain⟨A',c',rfl,hc,hf⟩:=Jy ho;have a3:=(hb.ext D).ext a1;refine ρ ?_;refine ix 0 a3 (by simp) ?_;refine ρ ?_;refine ld (a3.cell (Xk (l:=[UInt32.ofNat m]) (k:=0) (by simp))) ?_;have em:(([UInt32.ofNat m].getD 0 0).toNat:Int)=(m:Int):=by grind [UInt32.ofNat,UInt32.toNat_ofNat',Nat.mod_eq_of_lt]
 rw[em];refine ρ ?_;refine cl (Qhm rfl om ho h0 hm) ?_;rintro r w2 ⟨rfl,⟨os,a4,F,a5⟩,a7⟩;rw[Zf]at F ⊢;have Z:Ext G w2:=Jr (D.trans a1) a7 (λk e=>nL D.size (hf k e).1);have J:=Rd.own a5;rw[<-a4]at J hc ⊢;refine ρ ?_;refine cl (Gc J hc om) ?_;rintro t w3 ⟨rfl,rfl⟩;have:=Ka J om;rw[F]at this ⊢;have hr:n % m<m:=Nat.mod_lt _ h0;refine ρ ?_;rw[Yh om];refine cl (Xn (n % m) om _) ?_;rintro y w4 ⟨hy,U⟩;refine ρ ?_;refine fin3 ⟨⟨_,y,rfl,⟨this.ext U,λ_ ad m c e hk=>?_⟩,hy.ol Z⟩,Z.trans U⟩;injection e with e1 e2 e3
 subst e1;have:=(hf ad.block rfl).1;have:=D.size;have a6:ad.block<G.heap.size:=hk;omega
theorem Zo: Qu Tryz.prog 84=some (.agg #[.bool false,.slice none 0 0,.slice none 0 0]):=kr
theorem NatV.sl(h:NatV w v n): ∃ A c,v=.slice A (Jj n).length c:=by obtain⟨A,c,e,_⟩:=h;exact⟨A,c,e⟩
theorem Yd(b:Bool)(A B:Option Addr)(m c m' c':Nat)(w:World): (Instr.build 84 #[(0,.bool b),(1,.slice A m c),(2,.slice B m' c')]).run Tryz.prog w=.ok (.agg #[.bool b,.slice A m c,.slice B m' c']) w:=kr
theorem zFnN: Qu Tryz.prog 174=some .nilFunc:=kr
theorem Qgm{x:Value}(hx:NatV w x n)(hy:NatV w y m)(hn:n<18446744073709551616)(hm:m<18446744073709551616)(h0:0<m):
  Ret Tryz.prog 160 [x,y,p] w λr w'=>NatX (Ol w) w' r (Nat.gcd n m)/\Ext w w':=by
 have ln:=Qm hn;have lm:=Qm hm;have hb:=(Gq (x:=m) om).1;refine Jz Tryz.func160 Tryz.ntmps160 rfl kr rfl ?_;refine ρ ?_;refine cl (Yv hy om) ?_;rintro _ w ⟨rfl,rfl⟩;refine ρ ?_;refine cf ?_ ?_
 .simp;omega
 refine ρ ?_;refine cl (Jyr hx hn) ?_;rintro _ w ⟨rfl,rfl⟩;refine ρ ?_;refine cl (Jyr hy hm) ?_;rintro _ w ⟨rfl,rfl⟩;refine ρ ?_;refine Qd (fun (a b:Nat)=>[(0,x),(1,y),(2,p),(6,.int .u64 (a:Int)),(8,.int .u64 (b:Int))]) (λa b w'=>Ext w w'/\a<18446744073709551616/\b<18446744073709551616/\Nat.gcd a b=Nat.gcd n m) (λ_ b=>b) n m sB ⟨Ext.refl _,hn,hm,rfl⟩ ?_;rintro a b w2 ⟨u,ha,U,J⟩;refine ρ ?_;refine ci (λh=>?_) (λh=>?_)
 .have D:b≠0:=by intro e;subst e;simp at h
  clear h;have F:Ext w2 w2.drew:=(Ext.refl w2).drew;have O:(b:Int)≠0:=om
  refine ρ ?_;refine dr [(0,0),(0,1),(0,2),(0,3),(0,4),(0,5)] kr ?_;refine ρd ?_;refine drem O ?_;refine ρd ?_;refine ρ ?_;refine Qv b (a % b) ?_ ⟨u.trans F,U,Nat.lt_of_lt_of_le (Nat.mod_lt _ om) om,by rw[<-J,Nat.gcd_comm a b,Nat.gcd_rec b a];exact Nat.gcd_comm _ _⟩ (Nat.mod_lt _ om);have e3:(a:Int).tmod b=((a % b:Nat):Int):=rfl;rw[e3];exact sO
 have D:b=0:=by
  rcases Nat.eq_zero_or_pos b with h1|h1
  .exact h1
  simp at h;omega
 subst D;rw[Nat.gcd_zero_right]at J;subst J;refine ρ ?_;refine cl (Xn _ ha w2) ?_;rintro r w3 ⟨Z,G⟩;refine ρ ?_;exact Jq ⟨Z.ol u,u.trans G⟩
theorem Qln{x:Value}(hx:NatV w x n)(hy:NatV w y m)(hn:n<18446744073709551616)(hm:m<18446744073709551616)(h0:0<m):
  Ret Tryz.prog 130 [x,y] w λr w'=>NatX (Ol w) w' r (Nat.gcd n m)/\Ext w w':=by
 have lm:=Qm hm;have hl:Jv m<=64:=Yb hm;refine Jz Tryz.func130 Tryz.ntmps130 rfl kr rfl ?_;refine ρ ?_;refine alc zFnN ?_;intro w1 b F U Z;refine ρ ?_;refine stb1 Z ?_ rfl;intro w2 G O u;have u:Ext w w2:=u w F U;refine ρ ?_;refine Jl (fun (_:Unit)=>[(0,x),(1,y),(5,.pointer (some ⟨b,0,none⟩))]) (λ_ w'=>w'=w2) (λ_=>0) () sB rfl ?_;rintro _ w3 rfl;refine ρ ?_;refine cl (Yv (hy.ext u) om) ?_;rintro _ w4 ⟨rfl,rfl⟩;refine ρ ?_;refine cf ?_ ?_
 .exact dF om
 refine ρ ?_;refine ld (G.at (i:=0) rfl) ?_;refine ρ ?_;refine clv (Qgm (p:=.pointer (some ⟨b,0,none⟩)) (hx.ext u) (hy.ext u) hn hm h0) ?_;rintro r w5 ⟨J,D⟩;refine ρ ?_;exact Jq ⟨J.ol u,u.trans D⟩
theorem len0: (((Jj n).length:Int) == 0)=decide (n=0):=by
 by_cases h:n=0
 .subst h;rw[limbs_0];rfl
 have:=limbs_pos' h;rw[decide_eq_false h];exact beq_eq_false_iff_ne.2 om
theorem Qz{b c:Value}{x:Bool}(ha:a=.bool x)(hb:b.oneCell'=true)(hc:c.oneCell'=true): ∀ u∈[a,b,c],u.oneCell'=true:=λu y=>by
 simp only[List.mem_cons,List.not_mem_nil,or_false]at y;rcases y with rfl|rfl|rfl
 .rw[ha];rfl
 .exact hb
 exact hc
theorem RtX.out{w2 w4 w5:World}{x:Value}{b:Bool}(hx:NatX (Ol w2) w4 x q.num)(hy:NatX (Ol w2) w4 y q.den)(hg:w4.grownBy w5 (some b2))(hb:b2<w2.heap.size)(hxw:Ext w w2)(e:b=q.neg): RtX (Ol w) w5 (.agg #[.bool b,x,y]) q:=by
 have u:GrN (Ol w2) w4 w5:=GrN.by hg λk D=>by injection D with D;subst D;exact hb
 exact⟨x,y,by rw[e],(hx.gr u).ol hxw,(hy.gr u).ol hxw⟩
theorem Qgl(h:0<m): 0<Nat.gcd n m:=Nat.gcd_pos_of_pos_right _ h
theorem Zh{N:Nat->Prop}(hv:RtX N w v q)(hn:q.num<18446744073709551616)(hd:q.den<4294967296):
  Ret Tryz.prog 93 [v] w λr w'=>RtX (Ol w) w' r q.norm/\Ext w w':=by
 obtain⟨x,y,rfl,⟨hx,_⟩,⟨hy,_⟩⟩:=hv;have ln:=Qm hn;have an:=Qm (n:=q.den) om;refine Jz Tryz.func93 Tryz.ntmps93 rfl kr rfl ?_;refine ρ ?_;refine bx ?_;intro w1 b1 a5 ax a6;refine ρ ?_;refine alc Zo ?_;intro w2 b2 aa aw a3;have aj:=a3;have J:=a5.trans aa;have a4:Ext w2 w2.drew:=(Ext.refl w2).drew;have a9:=(a6.ext aa).ext a4;refine ρ ?_;refine drH (λ_=>false) ?_;refine Jjb (fuel':=4) 14 [(0,0),(0,1),(0,3),(0,4)] #[true,true,false,true,true,false,false,false] kr kr rfl ?_;refine ρd ?_;refine dld (a9.at (i:=1) rfl) ?_;refine ρd ?_;refine dld (a9.at (i:=2) rfl) ?_;refine ρd ?_;refine Jjc ?_;refine hmkS 14 2 _ #[true,true,true,true,true,true,false,false] [2,5] [8,11] [SF.nx (Ol w2) q.num,SF.nx (Ol w2) q.den] kr (by rfl) ?_ ?_
 .refine gsc (λvs v1 a7 hd=>?_) ?_
  .simp only[slM];refine cl (Jmf (hx.ext ((J.trans a4).trans a7)) om) ?_;rintro u v2 ⟨h1,h2,h3⟩;exact Qk (Vx h3 ((h2.o h1).ol (a4.trans a7)))
  refine gsc (λvs v1 a7 hd=>?_) gse
  simp only[slM];refine cl (Jmf (hy.ext ((J.trans a4).trans a7)) om) ?_;rintro u v2 ⟨h1,h2,h3⟩;exact Qk (Vx h3 ((h2.o h1).ol (a4.trans a7)))
 intro vs w3 ak hd;have hX:NatX (Ol w2) w3 (vs 0) q.num:=hd 0;have hY:NatX (Ol w2) w3 (vs 1) q.den:=hd 1;simp only[slM];generalize vs 0=x3 at *
 generalize vs 1=y3 at *
 refine Jjb (fuel':=0) 14 [(0,6),(0,7)] #[true,true,true,true,true,true,true,true] kr kr rfl ?_;refine ρd ?_;refine Jjc ?_;refine Zx kr ?_;have G:=a4.trans ak;have a2:=J.trans G;have a6:=(a6.ext aa).ext G;have a3:=a3.ext G;obtain⟨A,c,ex,av,au,ar⟩:=id hX.1;obtain⟨B,d,ey,a8,aq,ap⟩:=id hY.1;subst ex;subst ey;refine ρ ?_;have U:=aj.lt;rw[len0];refine Go.Wk.ki 15 (λh=>?_) (λh=>?_)
 .have hz:=oT h;clear h;refine ρ ?_;refine ld (a6.at (i:=0) rfl) ?_;refine ρ ?_;have hq:q.norm=⟨false,q.num,1⟩:=by unfold PR.norm;rw[if_pos (.inl hz),hz];simp
  refine Go.Wk.ki 22 (λhs=>?_) (λhs=>?_)
  .refine ρ ?_;refine Go.Wk.kv 26 (u:=.bool false) (congrArg Value.bool ?_) ?_
   .exact dF (by rw[hz,limbs_0];simp)
   refine ρ ?_;refine cl (Xn 1 (by decide) _) ?_;rintro o w4 ⟨ho,D⟩;obtain⟨O,oc,rfl⟩:=ho.1.sl;refine ρ ?_;refine bld (Yd _ _ _ _ _ _ _ _) ?_;refine ρ ?_;refine stb (cs':=[.bool false,.slice A (Jj q.num).length c,.slice O (Jj 1).length oc]) (a3.ext D) ?_ (Qz rfl rfl ho.1.one);intro w5 a1 Z F;refine ρ ?_;refine Zb a1 ⟨?_,F w (a2.trans D) (by have:=a5.size;omega)⟩;rw[hq];exact RtX.out (hX.ext D) (ho.ol G) Z U J rfl
  refine ρ ?_;refine cl (Xn 1 (by decide) _) ?_;rintro o w4 ⟨ho,D⟩;obtain⟨O,oc,rfl⟩:=ho.1.sl;refine ρ ?_;refine bld (Yd _ _ _ _ _ _ _ _) ?_;refine ρ ?_;refine stb (cs':=[.bool false,.slice A (Jj q.num).length c,.slice O (Jj 1).length oc]) (a3.ext D) ?_ (Qz rfl rfl ho.1.one);intro w5 a1 Z F;refine ρ ?_;refine Zb a1 ⟨?_,F w (a2.trans D) (by have:=a5.size;omega)⟩;rw[hq];exact RtX.out (hX.ext D) (ho.ol G) Z U J rfl
 have hz:=oF h;clear h;refine ρ ?_;rw[len0];refine ci (λh=>?_) (λh=>?_)
 .have af:=oT h;clear h;refine ρ ?_;refine ld (a6.at (i:=0) rfl) ?_;refine ρ ?_;have hq:q.norm=⟨q.neg,q.num,1⟩:=by unfold PR.norm;rw[if_pos (.inr af)];simp[hz]
  refine Go.Wk.ki 22 (λhs=>?_) (λhs=>?_)
  .refine ρ ?_;refine Go.Wk.kv 26 (u:=.bool true) (congrArg Value.bool ?_) ?_
   .exact decide_eq_true (by have:=limbs_pos' hz;omega)
   refine ρ ?_;refine cl (Xn 1 (by decide) _) ?_;rintro o w4 ⟨ho,D⟩;obtain⟨O,oc,rfl⟩:=ho.1.sl;refine ρ ?_;refine bld (Yd _ _ _ _ _ _ _ _) ?_;refine ρ ?_;refine stb (cs':=[.bool true,.slice A (Jj q.num).length c,.slice O (Jj 1).length oc]) (a3.ext D) ?_ (Qz rfl rfl ho.1.one);intro w5 a1 Z F;refine ρ ?_;refine Zb a1 ⟨?_,F w (a2.trans D) (by have:=a5.size;omega)⟩;rw[hq];exact RtX.out (hX.ext D) (ho.ol G) Z U J hs.symm
  refine ρ ?_;refine cl (Xn 1 (by decide) _) ?_;rintro o w4 ⟨ho,D⟩;obtain⟨O,oc,rfl⟩:=ho.1.sl;refine ρ ?_;refine bld (Yd _ _ _ _ _ _ _ _) ?_;refine ρ ?_;refine stb (cs':=[.bool false,.slice A (Jj q.num).length c,.slice O (Jj 1).length oc]) (a3.ext D) ?_ (Qz rfl rfl ho.1.one);intro w5 a1 Z F;refine ρ ?_;refine Zb a1 ⟨?_,F w (a2.trans D) (by have:=a5.size;omega)⟩;rw[hq];exact RtX.out (hX.ext D) (ho.ol G) Z U J hs.symm
 have af:=oF h;clear h;have hq:q.norm=⟨q.neg,q.num / Nat.gcd q.num q.den,q.den / Nat.gcd q.num q.den⟩:=by unfold PR.norm;rw[if_neg om]
 have am:=Yb (x:=q.den) (k:=32) om;refine ρ ?_;refine cl (Yv hY.1 om) ?_;rintro _ w3 ⟨rfl,rfl⟩;refine ρ ?_;refine Ur (fun (x5 y5:Value)=>[(1,.pointer (some ⟨b1,0,none⟩)),(2,.pointer (some ⟨b2,0,none⟩)),(3,x5),(4,y5)])
  (λx5 y5 w'=>Ext w3 w'/\NatX (Ol w2) w' x5 (q.num / Nat.gcd q.num q.den)/\NatX (Ol w2) w' y5 (q.den / Nat.gcd q.num q.den)) ?_ ?_
 .refine ci (λh=>?_) (λh=>?_)
  .clear h;refine ρ ?_;refine cl (Qln hX.1 hY.1 hn om om) ?_;rintro g w4 ⟨hg,D⟩;have ai:0<Nat.gcd q.num q.den:=Qgl om;have ao:Nat.gcd q.num q.den<=q.den:=Nat.le_of_dvd om (Nat.gcd_dvd_right _ _);have ac:=Yb (x:=Nat.gcd q.num q.den) (k:=32) om;refine ρ ?_;refine cl (Yv hg.1 (by have:=Qm (n:=Nat.gcd q.num q.den) om;omega)) ?_;rintro _ w4 ⟨rfl,rfl⟩;refine ρ ?_;refine ci (λh=>?_) (λh=>?_)
   .clear h;refine ρ ?_;refine cl (Ip (hX.ext D).1 hg.1 om ai om) ?_;rintro _ w5 ⟨⟨a,r,rfl,ha,_⟩,F⟩;refine ρ ?_;refine cl (Ip ((hY.ext D).ext F).1 (hg.ext F).1 om ai om) ?_;rintro _ w6 ⟨⟨b,r2,rfl,hb,_⟩,ah⟩;refine ρ ?_;exact Xl a b sB ⟨(D.trans F).trans ah,(ha.ol (G.trans D)).ext ah,hb.ol ((G.trans D).trans F)⟩
   have h1:=oF h;have ac:Nat.gcd q.num q.den=1:=by
    have:=Yt (x:=Nat.gcd q.num q.den);have h2:2^Jv (Nat.gcd q.num q.den)<=2^1:=Nat.pow_le_pow_right (by decide) om;omega
   refine ρ ?_;refine Xl _ _ sB ⟨D,?_,?_⟩
   .rw[ac,Nat.div_one];exact hX.ext D
   rw[ac,Nat.div_one];exact hY.ext D
  have h1:=oF h;have a8:q.den=1:=by
   have:=Yt (x:=q.den);have h2:2^Jv q.den<=2^1:=Nat.pow_le_pow_right (by decide) om;omega
  refine ρ ?_;refine Xl _ _ sB ⟨Ext.refl _,?_,?_⟩
  .rw[a8,Nat.gcd_one_right,Nat.div_one];exact hX
  rw[a8,Nat.gcd_one_right,Nat.div_one,<-a8];exact hY
 rintro x5 y5 w4 ⟨D,ae,ad⟩;obtain⟨X5,xc,rfl⟩:=ae.1.sl;obtain⟨Y5,yc,rfl⟩:=ad.1.sl;refine ρ ?_;refine ld ((a6.ext D).at (i:=0) rfl) ?_;refine ρ ?_;refine bld (Yd _ _ _ _ _ _ _ _) ?_;refine ρ ?_;refine stb (cs':=[.bool q.neg,.slice X5 _ xc,.slice Y5 _ yc]) (a3.ext D) ?_ (Qz rfl ae.1.one ad.1.one);intro w5 a1 Z F;refine ρ ?_;refine Zb a1 ⟨?_,F w (a2.trans D) (by have:=a5.size;omega)⟩;rw[hq];exact RtX.out ae ad Z U J rfl
end Go.Proofs.YtebiphhfkdbpfaaGreat
namespace Go.Wk
open Go.RowKit
theorem dnbR{P:Program}{n d ty:Nat}{al:AL}{w:World}{ops:Array Oper}{Q:Exit->Act->World->Prop}{drest:List (Nat×Oper)}{pos:String}{aft:Array Edge}{tt:TT}[h:Tab P tt]{t t2:TypeId}{k:TK}{x y:Operand}{p q:Bool}(kk:WD P n ops Q drest ((d,.bool (!(p == q)))::al) w)(ht:tk tt t=some k:=by rfl)(hk:k.desc=.bool:=by rfl)(hx:ev al x=some (.bool p):=by rfl)(hy:ev al y=some (.bool q):=by rfl)(hd:Nat.blt d n=true:=by rfl):
  WD P n ops Q ((0,⟨some d,.binOp .neq t x y t2,ty,pos,aft,none⟩)::drest) al w:=dy (λw' _ a u=>Qkc h.ok ht hk u hx hy (some d) w') hd kk
end Go.Wk
namespace Go.Proofs.YtebiphhfkdbpfaaGreat
open Go.RowKit Pl Go.Wk
attribute [local irreducible] WC WL QX WD WDB WP WN WG WH
variable {B b2 n:Nat}{N N':Nat->Prop}{p q:PR}{u v:Value}{w:World}
theorem bldR2(b:Bool)(A:Option Addr)(m c:Nat)(w:World): (Instr.build 84 #[(0,.bool b),(1,.slice A m c)]).run Tryz.prog w=.ok (.agg #[.bool b,.slice A m c,.slice none 0 0]) w:=kr
theorem bldR1(A:Option Addr)(m c:Nat)(w:World): (Instr.build 84 #[(1,.slice A m c)]).run Tryz.prog w=.ok (.agg #[.bool false,.slice A m c,.slice none 0 0]) w:=kr
theorem RtX.sl{N:Nat->Prop}{w:World}{v:Value}{q:PR}(h:RtX N w v q): ∃ A c B d,v=.agg #[.bool q.neg,.slice A (Jj q.num).length c,.slice B (Jj q.den).length d]/\NatX N w (.slice A (Jj q.num).length c) q.num/\NatX N w (.slice B (Jj q.den).length d) q.den:=by
 obtain⟨x,y,rfl,D,u⟩:=h;obtain⟨A,c,rfl⟩:=D.1.sl;obtain⟨B,d,rfl⟩:=u.1.sl;exact⟨A,c,B,d,rfl,D,u⟩
theorem RtX.box{w2 w4 w5:World}(h:RtX (Ol w2) w4 v q)(hg:w4.grownBy w5 (some b2))(hb:b2<w2.heap.size)(hxw:Ext w w2): RtX (Ol w) w5 v q :=
 (h.gr (GrN.by hg λk u=>by injection u with u;subst u;exact hb)).ol hxw
theorem Qcx(z:Int)(h1:-9223372036854775808<z)(h2:z<9223372036854775808)(w:World): Ret Tryz.prog 122 [.int .i64 z] w λr w'=>NatX (Ol w) w' r z.natAbs/\Ext w w':=by
 refine Jz Tryz.func122 Tryz.ntmps122 rfl kr rfl ?_;refine ρ ?_;refine ci (λh=>?_) (λh=>?_)
 .have F:=oT h;refine ρ ?_;refine Go.Wk.kv 7 (u:=.int .u64 (z.natAbs:Int)) (congrArg (Value.int .u64) ?_) ?_
  .simp only[IntKind.wrap_u64];omega
  refine cl (Xn z.natAbs om w) ?_;rintro r w1 ⟨D,y⟩;refine ρ ?_;exact Jq ⟨D,y⟩
 have F:=oF h;refine ρ ?_;refine Go.Wk.kv 10 (u:=.int .u64 (z.natAbs:Int)) (congrArg (Value.int .u64) ?_) ?_
 .simp only[IntKind.wrap_u64];omega
 refine cl (Xn z.natAbs om w) ?_;rintro r w1 ⟨D,y⟩;refine ρ ?_;exact Jq ⟨D,y⟩
theorem Gp(z:Int)(h1:-9223372036854775808<z)(h2:z<9223372036854775808)(w:World): Ret Tryz.prog 80 [.int .i64 z] w λr w'=>RtX (Ol w) w' r (PR.int z)/\Ext w w':=by
 have hq:PR.norm ⟨decide (z<0),z.natAbs,0⟩=PR.int z:=by
  unfold PR.norm PR.int;rw[if_pos (.inr rfl)];by_cases h:z<0
  .have:z.natAbs≠0:=om
   simp[h,this]
  simp[h]
 refine Jz Tryz.func80 Tryz.ntmps80 rfl kr rfl ?_;refine ρ ?_;refine alc Zo ?_;intro w1 b1 F Z G;refine ρ ?_;refine cl (Qcx z h1 h2 w1) ?_;rintro r w2 ⟨hr,y⟩;obtain⟨A,c,rfl⟩:=hr.1.sl;refine ρ ?_;refine bld (bldR2 _ _ _ _ _) ?_;refine ρ ?_;refine cl (Zh (N:=Ol w1) (q:=⟨decide (z<0),z.natAbs,0⟩) ⟨_,_,rfl,hr,NatX.nil _⟩ (by show z.natAbs<_;omega) (show 0<4294967296 by decide)) ?_;rintro u w3 ⟨O,D⟩;rw[hq]at O;obtain⟨A',c',B',d',rfl,a3,a2⟩:=O.sl;refine ρ ?_;refine stb (cs':=[.bool (PR.int z).neg,.slice A' _ c',.slice B' _ d']) ((G.ext y).ext D) ?_ (Qz rfl rfl rfl);intro w4 a1 U J;refine ρ ?_;exact Zb a1 ⟨(O.ol y).box U G.lt F,J w ((F.trans y).trans D) Z⟩
theorem Qwx(hv:NatV w v n)(hn:n<18446744073709551616): Ret Tryz.prog 100 [v] w λr w'=>RtX (Ol w) w' r (PR.norm ⟨false,n,0⟩)/\Ext w w':=by
 obtain⟨A,c,rfl⟩:=hv.sl;refine Jz Tryz.func100 Tryz.ntmps100 rfl kr rfl ?_;refine ρ ?_;refine alc Zo ?_;intro w1 b1 y O F;refine ρ ?_;refine bld (bldR1 _ _ _ _) ?_;refine ρ ?_;refine cl (Zh (N:=λ_=>False) (q:=⟨false,n,0⟩) ⟨_,_,rfl,⟨hv.ext y,λ_ _ _ _ _ h=>h⟩,NatX.nil _⟩ hn (show 0<4294967296 by decide)) ?_;rintro u w3 ⟨Z,D⟩;obtain⟨A',c',B',d',rfl,a2,a1⟩:=Z.sl;refine ρ ?_;refine stb (cs':=[.bool (PR.norm ⟨false,n,0⟩).neg,.slice A' _ c',.slice B' _ d']) (F.ext D) ?_ (Qz rfl rfl rfl);intro w4 U J G;refine ρ ?_;exact Zb U ⟨Z.box J F.lt y,G w (y.trans D) O⟩
theorem Jhp(hv:RtX N w v q)(hn:q.num<18446744073709551616)(hd:q.den<4294967296): Ret Tryz.prog 127 [v] w λr w'=>RtX (Ol w) w' r q.opp/\Ext w w':=by
 obtain⟨A,c,B,d,rfl,hA,hB⟩:=hv.sl;refine Jz Tryz.func127 Tryz.ntmps127 rfl kr rfl ?_;refine ρ ?_;refine bx ?_;intro w1 b1 J a5 D;refine ρ ?_;refine alc Zo ?_;intro w2 b2 G a1 O;have D:=D.ext G;refine ρ ?_;refine ld (D.at (i:=0) rfl) ?_;refine ρ ?_;refine ld (D.at (i:=1) rfl) ?_;refine ρ ?_;refine ld (D.at (i:=2) rfl) ?_;refine ρ ?_;refine bld (Yd _ _ _ _ _ _ _ _) ?_;refine ρ ?_;have y:=J.trans G;refine cl (Zh (N:=N) (q:=⟨!q.neg,q.num,q.den⟩) ⟨_,_,rfl,hA.ext y,hB.ext y⟩ hn hd) ?_;rintro u w3 ⟨hu,F⟩;obtain⟨A',c',B',d',rfl,a4,a3⟩:=hu.sl;refine ρ ?_;refine stb (cs':=[.bool (PR.norm ⟨!q.neg,q.num,q.den⟩).neg,.slice A' _ c',.slice B' _ d']) (O.ext F) ?_ (Qz rfl rfl rfl);intro w4 a2 Z U;refine ρ ?_;exact Zb a2 ⟨hu.box Z O.lt y,U w (y.trans F) (nL J.size a1)⟩
theorem Uw(hv:RtX N w v q)(hn:(Jj q.num).length<=1000): Ret Tryz.prog 90 [v] w λr w'=>r=.int .i64 q.sign/\Ext w w':=by
 obtain⟨A,c,B,d,rfl,G,J⟩:=hv.sl;refine Jz Tryz.func90 Tryz.ntmps90 rfl kr rfl ?_;refine ρ ?_;refine bx ?_;intro w1 b1 u F y;refine ρ ?_;refine ld (y.at (i:=1) rfl) ?_;refine ρ ?_;refine cl (Yv (G.1.ext u) hn) ?_;rintro _ w1 ⟨rfl,rfl⟩;refine ρ ?_;refine ci (λh=>?_) (λh=>?_)
 .have h0:q.num=0:=by
   rcases Nat.eq_zero_or_pos q.num with h1|h1
   .exact h1
   have:=(Gq (x:=q.num) om).1;have:=eq_of_beq h;omega
  refine ρ ?_;exact Jq ⟨by unfold PR.sign;rw[if_pos h0],u⟩
 have h0:q.num≠0:=λe=>by rw[e]at h;simp[Jv]at h
 refine ρ ?_;refine ld (y.at (i:=0) rfl) ?_;refine ρ ?_;refine ci (λD=>?_) (λD=>?_)
 .refine ρ ?_;exact Jq ⟨by unfold PR.sign;rw[if_neg h0,if_pos D],u⟩
 refine ρ ?_;exact Jq ⟨by unfold PR.sign;rw[if_neg h0,if_neg (by rw[D];decide)],u⟩
theorem Jhq(hv:RtX N w v q)(hN:∀ k,N k->k<w.heap.size)(hn:(Jj q.den).length<=1000): Ret Tryz.prog 157 [v] w λr w'=>NatX N w' r q.dvs/\Ext w w':=by
 obtain⟨A,c,B,d,rfl,U,F⟩:=hv.sl;refine Jz Tryz.func157 Tryz.ntmps157 rfl kr rfl ?_;refine ρ ?_;refine bx ?_;intro w1 b1 u O y;refine ρ ?_;refine ld (y.at (i:=2) rfl) ?_;refine ρ ?_;refine cl (Yv (F.1.ext u) hn) ?_;rintro _ w1 ⟨rfl,rfl⟩;refine ρ ?_;refine ci (λh=>?_) (λh=>?_)
 .have h0:q.den=0:=by
   rcases Nat.eq_zero_or_pos q.den with h1|h1
   .exact h1
   have:=(Gq (x:=q.den) om).1;have:=eq_of_beq h;omega
  refine ρ ?_;refine cl (Xn 1 (by decide) _) ?_;rintro o w2 ⟨G,D⟩;refine ρ ?_;refine Jq ⟨?_,u.trans D⟩;unfold PR.dvs;rw[if_pos h0];exact(G.ol u).old λk J=>.inl (hN k J)
 have h0:q.den≠0:=λe=>by rw[e]at h;simp[Jv]at h
 refine ρ ?_;refine ld (y.at (i:=2) rfl) ?_;refine ρ ?_;refine Jq ⟨?_,u⟩;unfold PR.dvs;rw[if_neg h0];exact F.ext u
theorem Jzw(h:q.num<B)(h2:1<B): q.norm.num<B:=by
 unfold PR.norm;split
 .exact h
 exact nN (Nat.div_le_self _ _) h
theorem Jzv(h:q.den<B)(h2:1<B): q.norm.den<B:=by
 unfold PR.norm;split
 .exact h2
 exact nN (Nat.div_le_self _ _) h
def SF.rx(N:Nat->Prop)(q:PR): SF:=⟨λv w=>RtX N w v q,λh hx=>h.ext hx⟩
theorem Jyh(hv:RtX N w v p)(hu:RtX N' w u q)(h1:p.num<4294967296)(h2:p.den<4294967296)(h3:q.num<4294967296)(h4:q.den<4294967296)(h5:p.norm.den*q.norm.den<4294967296):
  Ret Tryz.prog 99 [v,u] w λr w'=>RtX (Ol w) w' r (PR.mul p q)/\Ext w w':=by
 obtain⟨A,c,B,d,rfl,hA,hB⟩:=hv.sl;obtain⟨C,e,D,f,rfl,hC,hD⟩:=hu.sl;refine Jz Tryz.func99 Tryz.ntmps99 rfl kr rfl ?_;refine ρ ?_;refine bx ?_;intro w1 b1 aj b9 a6;refine ρ ?_;refine bx ?_;intro w2 b2 a9 b8 a4;refine ρ ?_;refine alc Zo ?_;intro w3 b3 ai b7 av;have a5:=a6;have aw:=a4;have a6:=(a6.ext a9).ext ai;have a4:=a4.ext ai;have aq:=(aj.trans a9).trans ai;refine ρ ?_;have a7:Ext w3 w3.drew:=(Ext.refl w3).drew;have ah:=a6.ext a7;have af:=a4.ext a7;have J:=aq.trans a7;refine drC 14 [] [(0,0),(0,2),(1,1),(1,3),(2,4),(2,5)] kr ?_;refine ρp ?_;refine ρd ?_;refine Qj (cs:=[.bool p.neg,.slice A _ c,.slice B _ d]) (λj u hu=>ah.at hu) ?_;refine ρd ?_;refine Qj (cs:=[.bool q.neg,.slice C _ e,.slice D _ f]) (λj u hu=>af.at hu) ?_;refine ρd ?_;refine dcl (Zh (N:=N) (q:=p) ⟨_,_,rfl,hA.ext J,hB.ext J⟩ om h2) ?_;rintro x4 w4 ⟨bb,G⟩;refine⟨G,?_⟩;refine ρd ?_
 refine dcl (Zh (N:=N') (q:=q) ⟨_,_,rfl,(hC.ext J).ext G,(hD.ext J).ext G⟩ om h4) ?_;rintro y4 w5 ⟨an,a2⟩;refine⟨a2,?_⟩;have ba:=bb.ext a2;have an:=an.ol G;obtain⟨A5,c5,B5,d5,rfl,bm,bj⟩:=ba.sl;obtain⟨C5,e5,D5,f5,rfl,bh,bf⟩:=an.sl;refine ρd ?_;refine Jf ?_;refine stb (cs':=[.bool p.norm.neg,.slice A5 _ c5,.slice B5 _ d5]) ((ah.ext G).ext a2) ?_ (Qz rfl rfl rfl);intro w6 ay am b6;refine ρ ?_;refine Qh ?_;refine Jf ?_;have ax:Blk w6 b2 _ _:=((af.ext G).ext a2).grown am (λe=>by injection e with e;have:=a5.lt;omega);refine stb (cs':=[.bool q.norm.neg,.slice C5 _ e5,.slice D5 _ f5]) ax ?_ (Qz rfl rfl rfl);intro w7 O ak b5;refine ρ ?_;have U:Blk w7 b1 _ _:=ay.grown ak (λe=>by injection e with e;have:=a5.lt;omega);have l1:=a6.lt;have l2:=a4.lt;have l3:=av.lt;have Z:GrN (Ol w3.drew) w5 w7:=(GrN.by am λk ek=>by injection ek with ek;subst ek;exact l1).trans (GrN.by ak λk ek=>by injection ek with ek;subst ek;exact l2)
 have bl:=bm.gr Z;have bi:=bj.gr Z;have bg:=bh.gr Z;have be:=bf.gr Z;have ad:Ext w w7:=b5 w (b6 w ((J.trans G).trans a2) b9) (nL aj.size b8);have ae:Blk w7 b3 84 [.bool false,.slice none 0 0,.slice none 0 0]:=((((av.ext a7).ext G).ext a2).grown am (λe=>by injection e with e;have:=a5.lt;have:=a9.size;omega)).grown ak (λe=>by injection e with e;have:=aw.lt;omega);have y:Ext w7 w7.drew:=(Ext.refl w7).drew;have U:=U.ext y;have O:=O.ext y;refine dr [(0,0),(0,1),(0,2),(0,3),(0,4),(0,5),(0,6),(0,7),(0,8),(0,10),(0,11),(0,12),(0,13),(1,9),(1,14),(0,15),(1,16),(2,17)] kr ?_;refine ρd ?_;refine dld (U.at (i:=0) rfl) ?_;refine ρd ?_;refine dld (O.at (i:=0) rfl) ?_;refine ρd ?_;refine dnbR ?_;refine ρd ?_;refine dld (U.at (i:=1) rfl) ?_;refine ρd ?_;refine dld (O.at (i:=1) rfl) ?_;refine ρd ?_;refine dld (U.at (i:=2) rfl) ?_;refine ρd ?_;refine dld (O.at (i:=2) rfl) ?_;refine ρd ?_
 have n1:=Jzw h1 (by decide);have n2:=Jzv h2 (by decide);have n3:=Jzw h3 (by decide);have n4:=Jzv h4 (by decide);have hm:p.norm.num*q.norm.num<18446744073709551616:=by have:=Jys n1 n3;omega
 refine dcl (Vb (bl.1.ext y) (bg.1.ext y) (by have:=Qm (n:=p.norm.num) om;omega) (by have:=Qm (n:=q.norm.num) om;omega)) ?_;rintro x8 w8 ⟨ao,bd,a1⟩;refine⟨a1,?_⟩;have ao:=bd.o ao;refine ρd ?_;refine dcl (Vb ((bi.1.ext y).ext a1) ((be.1.ext y).ext a1) (by have:=Qm (n:=p.norm.den) om;omega) (by have:=Qm (n:=q.norm.den) om;omega)) ?_;rintro y9 w9 ⟨aa,bc,a8⟩;refine⟨a8,?_⟩;have aa:=(bc.o aa).ol a1;have au:=ao.ext a8;obtain⟨E,g,rfl⟩:=au.1.sl;obtain⟨F,g',rfl⟩:=aa.1.sl;refine ρd ?_;refine dbld (Yd _ _ _ _ _ _ _) ?_;refine ρd ?_;refine dcl (Zh (q:=⟨!(p.norm.neg == q.norm.neg),p.norm.num*q.norm.num,p.norm.den*q.norm.den⟩) ⟨_,_,rfl,au,aa⟩ hm h5) ?_;rintro r bo ⟨hR,ac⟩;refine⟨ac,?_⟩;have e:PR.norm ⟨!(p.norm.neg == q.norm.neg),p.norm.num*q.norm.num,p.norm.den*q.norm.den⟩=PR.mul p q:=rfl;rw[e]at hR;obtain⟨A',c',B',d',rfl,_,_⟩:=hR.sl
 have a3:=((y.trans a1).trans a8).trans ac;refine ρd ?_;refine Jf ?_;refine stb (cs':=[.bool (PR.mul p q).neg,.slice A' _ c',.slice B' _ d']) (ae.ext a3) ?_ (Qz rfl rfl rfl);intro bn b4 ar ap;refine ρ ?_;exact Zb b4 ⟨(hR.ol ((y.trans a1).trans a8)).box ar ae.lt ad,ap w (ad.trans a3) (nL (aj.trans a9).size b7)⟩
theorem Qvb(hv:RtX N w v p)(hu:RtX N' w u q)(h1:p.num<4294967296)(h2:p.den<4294967296)(h3:q.num<4294967296)(h4:q.den<4294967296)(h5:p.norm.den*q.norm.den<4294967296)(h6:p.norm.num*q.norm.den+q.norm.num*p.norm.den<18446744073709551616):
  Ret Tryz.prog 179 [v,u] w λr w'=>RtX (Ol w) w' r (PR.add p q)/\Ext w w':=by
 obtain⟨A,c,B,d,rfl,hA,hB⟩:=hv.sl;obtain⟨C,e,D,f,rfl,hC,hD⟩:=hu.sl;refine Jz Tryz.func179 Tryz.ntmps179 rfl kr rfl ?_;refine ρ ?_;refine bx ?_;intro w1 b1 b9 c0 a1;refine ρ ?_;refine bx ?_;intro w2 b2 au bz a6;refine ρ ?_;refine alc Zo ?_;intro w3 b3 b8 bw af;have ao:=a1;have bn:=a6;have a1:=(a1.ext au).ext b8;have a6:=a6.ext b8;have bh:=(b9.trans au).trans b8;refine ρ ?_;have ar:Ext w3 w3.drew:=(Ext.refl w3).drew;have b5:=a1.ext ar;have ay:=a6.ext ar;have a5:=bh.trans ar;refine drC 14 [] [(0,0),(0,2),(1,1),(1,3),(2,4),(2,5)] kr ?_;refine ρp ?_;refine ρd ?_;refine Qj (cs:=[.bool p.neg,.slice A _ c,.slice B _ d]) (λj u hu=>b5.at hu) ?_;refine ρd ?_;refine Qj (cs:=[.bool q.neg,.slice C _ e,.slice D _ f]) (λj u hu=>ay.at hu) ?_;refine ρd ?_;refine dcl (Zh (N:=N) (q:=p) ⟨_,_,rfl,hA.ext a5,hB.ext a5⟩ om h2) ?_;rintro x4 w4 ⟨c3,a3⟩;refine⟨a3,?_⟩
 refine ρd ?_;refine dcl (Zh (N:=N') (q:=q) ⟨_,_,rfl,(hC.ext a5).ext a3,(hD.ext a5).ext a3⟩ om h4) ?_;rintro y4 w5 ⟨bd,ae⟩;refine⟨ae,?_⟩;have c2:=c3.ext ae;have bd:=bd.ol a3;obtain⟨A5,c5,B5,d5,rfl,cd,cb⟩:=c2.sl;obtain⟨C5,e5,D5,f5,rfl,ca,c8⟩:=bd.sl;refine ρd ?_;refine Jf ?_;refine stb (cs':=[.bool p.norm.neg,.slice A5 _ c5,.slice B5 _ d5]) ((b5.ext a3).ext ae) ?_ (Qz rfl rfl rfl);intro w6 bp bb bv;refine ρ ?_;refine Qh ?_;refine Jf ?_;have bo:Blk w6 b2 _ _:=((ay.ext a3).ext ae).grown bb (λe=>by injection e with e;have:=ao.lt;omega);refine stb (cs':=[.bool q.norm.neg,.slice C5 _ e5,.slice D5 _ f5]) bo ?_ (Qz rfl rfl rfl);intro w7 an ba bu;refine ρ ?_;have ap:Blk w7 b1 _ _:=bp.grown ba (λe=>by injection e with e;have:=ao.lt;omega);have l1:=a1.lt;have l2:=a6.lt;have l3:=af.lt;have ad:GrN (Ol w3.drew) w5 w7:=(GrN.by bb λk ek=>by injection ek with ek;subst ek;exact l1).trans (GrN.by ba λk ek=>by injection ek with ek;subst ek;exact l2)
 have cc:=cd.gr ad;have bm:=cb.gr ad;have c9:=ca.gr ad;have bl:=c8.gr ad;have ac:Ext w w7:=bu w (bv w ((a5.trans a3).trans ae) c0) (nL b9.size bz);have aw:Blk w7 b3 84 [.bool false,.slice none 0 0,.slice none 0 0]:=((((af.ext ar).ext a3).ext ae).grown bb (λe=>by injection e with e;have:=ao.lt;have:=au.size;omega)).grown ba (λe=>by injection e with e;have:=bn.lt;omega);have O:Ext w7 w7.drew:=(Ext.refl w7).drew;have b4:=ap.ext O;have ax:=an.ext O;refine dr [(0,0),(0,1),(0,2),(0,3),(0,5),(0,6),(0,7),(0,8),(1,4),(1,9),(0,10),(0,11)] kr ?_;refine ρd ?_;refine dld (b4.at (i:=1) rfl) ?_;refine ρd ?_;refine dld (ax.at (i:=2) rfl) ?_;refine ρd ?_;refine dld (ax.at (i:=1) rfl) ?_;refine ρd ?_;refine dld (b4.at (i:=2) rfl) ?_;refine ρd ?_;have n1:=Jzw h1 (by decide);have n2:=Jzv h2 (by decide);have n3:=Jzw h3 (by decide);have n4:=Jzv h4 (by decide);have s1:=Qm (n:=p.norm.num) om
 have s2:=Qm (n:=p.norm.den) om;have s3:=Qm (n:=q.norm.num) om;have s4:=Qm (n:=q.norm.den) om;refine dcl (Vb (cc.1.ext O) (bl.1.ext O) om om) ?_;rintro x8 w8 ⟨be,c7,a7⟩;refine⟨a7,?_⟩;have be:=c7.o be;refine ρd ?_;refine dcl (Vb ((c9.1.ext O).ext a7) ((bm.1.ext O).ext a7) om om) ?_;rintro y9 w9 ⟨bc,c6,ai⟩;refine⟨ai,?_⟩;have bc:=(c6.o bc).ol a7;have c1:=be.ext ai;have a2:=(O.trans a7).trans ai;refine ρd ?_;refine ρ ?_;refine ld ((ap.ext a2).at (i:=2) rfl) ?_;refine ρ ?_;refine ld ((an.ext a2).at (i:=2) rfl) ?_;refine ρ ?_;refine cl (Vb (bm.1.ext a2) (bl.1.ext a2) om om) ?_;rintro z b6 ⟨hZ,c4,aa⟩;have hZ:=(c4.o hZ).ol (a7.trans ai);have hX:=c1.ext aa;have hY:=bc.ext aa;have y:=a2.trans aa;have a1:=ap.ext y;have a6:=an.ext y;have af:=aw.ext y;have b7:=aw.lt;have aj:=nL (b9.trans au).size bw
 have a8:=ac.trans y;refine ρ ?_;refine ld (a1.at (i:=0) rfl) ?_;refine ρ ?_;refine ld (a6.at (i:=0) rfl) ?_;refine ρ ?_;refine eqb ?_;refine ρ ?_;obtain⟨Z,zc,rfl⟩:=hZ.1.sl;have cg:=Qm (n:=p.norm.num*q.norm.den) om;have ce:=Qm (n:=q.norm.num*p.norm.den) om;refine ci (λh=>?_) (λh=>?_)
 .have he:p.norm.neg=q.norm.neg:=eq_of_beq h;have eq:PR.norm ⟨p.norm.neg,p.norm.num*q.norm.den+q.norm.num*p.norm.den,p.norm.den*q.norm.den⟩=PR.add p q:=by unfold PR.add PR.addN;rw[if_pos he]
  have ah:Ext b6 b6.drew:=(Ext.refl b6).drew;refine ρ ?_;refine dr [(0,0),(0,1),(0,2),(0,3),(0,5),(1,4),(0,6),(1,7),(2,8)] kr ?_;refine ρd ?_;refine dld ((a1.ext ah).at (i:=0) rfl) ?_;refine ρd ?_;refine dcl (Jmg (hX.1.ext ah) (hY.1.ext ah) om om) ?_;rintro t bt ⟨hT,bf,G⟩;refine⟨G,?_⟩;have U:=ah.trans G;have hT:=(bf.o hT).ol ((((O.trans a7).trans ai).trans aa).trans ah);obtain⟨T,tc,rfl⟩:=hT.1.sl;refine ρd ?_;refine dbld (Yd _ _ _ _ _ _ _) ?_;refine ρd ?_;refine dcl (Zh (q:=⟨p.norm.neg,p.norm.num*q.norm.den+q.norm.num*p.norm.den,p.norm.den*q.norm.den⟩) ⟨_,_,rfl,hT,(hZ.ol O).ext U⟩ h6 h5) ?_;rintro r bs ⟨hR,a9⟩;refine⟨a9,?_⟩;rw[eq]at hR;obtain⟨A',c',B',d',rfl,_,_⟩:=hR.sl;have F:=U.trans a9;refine ρd ?_;refine Jf ?_;refine stb (cs':=[.bool (PR.add p q).neg,.slice A' _ c',.slice B' _ d']) (af.ext F) ?_ (Qz rfl rfl rfl);intro bg bq bi a4;refine ρ ?_
  exact Zb bq ⟨(hR.ol (y.trans U)).box bi b7 ac,a4 w (a8.trans F) aj⟩
 have he:p.norm.neg≠q.norm.neg:=λe=>by rw[e]at h;simp at h
 refine ρ ?_;refine cl (Jmc hX.1 hY.1 om) ?_;rintro _ bt ⟨⟨t,rfl,hT,bf⟩,G⟩;have hT:=(bf.o hT).ol y;refine ρ ?_;by_cases hlt:p.norm.num*q.norm.den<q.norm.num*p.norm.den
 .rw[if_pos hlt];have eq:PR.norm ⟨q.norm.neg,q.norm.num*p.norm.den-p.norm.num*q.norm.den,p.norm.den*q.norm.den⟩=PR.add p q:=by unfold PR.add PR.addN;rw[if_neg he,if_neg om]
  refine ρ ?_;refine cl (Jmc (hY.1.ext G) (hX.1.ext G) om) ?_;rintro _ bs ⟨⟨t2,rfl,av,bj⟩,a9⟩;have av:=(bj.o av).ol (y.trans G);obtain⟨T,tc,rfl⟩:=av.1.sl;have F:=G.trans a9;refine ρ ?_;refine ld ((a6.ext F).at (i:=0) rfl) ?_;refine ρ ?_;refine bld (Yd _ _ _ _ _ _ _ _) ?_;refine ρ ?_;refine cl (Zh (q:=⟨q.norm.neg,q.norm.num*p.norm.den-p.norm.num*q.norm.den,p.norm.den*q.norm.den⟩) ⟨_,_,rfl,av,(hZ.ol O).ext F⟩ (by show q.norm.num*p.norm.den-_<_;omega) h5) ?_;rintro r bg ⟨hR,a4⟩;rw[eq]at hR;obtain⟨A',c',B',d',rfl,_,_⟩:=hR.sl;have J:=F.trans a4;refine ρ ?_;refine stb (cs':=[.bool (PR.add p q).neg,.slice A' _ c',.slice B' _ d']) (af.ext J) ?_ (Qz rfl rfl rfl);intro br aq am ak;refine ρ ?_;exact Zb aq ⟨(hR.ol (y.trans F)).box am b7 ac,ak w (a8.trans J) aj⟩
 rw[if_neg hlt];have eq:PR.norm ⟨p.norm.neg,p.norm.num*q.norm.den-q.norm.num*p.norm.den,p.norm.den*q.norm.den⟩=PR.add p q:=by unfold PR.add PR.addN;rw[if_neg he,if_pos om]
 obtain⟨T,tc,rfl⟩:=hT.1.sl;refine ρ ?_;refine ld ((a1.ext G).at (i:=0) rfl) ?_;refine ρ ?_;refine bld (Yd _ _ _ _ _ _ _ _) ?_;refine ρ ?_;refine cl (Zh (q:=⟨p.norm.neg,p.norm.num*q.norm.den-q.norm.num*p.norm.den,p.norm.den*q.norm.den⟩) ⟨_,_,rfl,hT,(hZ.ol O).ext G⟩ (by show p.norm.num*q.norm.den-_<_;omega) h5) ?_;rintro r bg ⟨hR,a4⟩;rw[eq]at hR;obtain⟨A',c',B',d',rfl,_,_⟩:=hR.sl;have J:=G.trans a4;refine ρ ?_;refine stb (cs':=[.bool (PR.add p q).neg,.slice A' _ c',.slice B' _ d']) (af.ext J) ?_ (Qz rfl rfl rfl);intro br aq am ak;refine ρ ?_;exact Zb aq ⟨(hR.ol (y.trans G)).box am b7 ac,ak w (a8.trans J) aj⟩
open Go.RowKit Pl Go.Wk
variable {N N':Nat->Prop}{p q:PR}{u v:Value}{w:World}
theorem Gj(q:PR): q.norm.num<=q.num:=by
 unfold PR.norm;split
 .exact nR _
 exact Nat.div_le_self _ _
theorem Vs(h:q.den≠0): q.norm.den<=q.den:=by
 unfold PR.norm;split
 .show 1<=q.den;omega
 exact Nat.div_le_self _ _
structure Sm(p q:PR): Prop where
 p0:p.den≠0
 q0:q.den≠0
 pn:p.num<4294967296
 qn:q.num<4294967296
 d:p.den*q.den<4294967296
 s:p.num*q.den+q.num*p.den<18446744073709551616
theorem Sm.pd(h:Sm p q): p.den<4294967296:=nN (Nat.le_mul_of_pos_right _ (Nat.pos_of_ne_zero h.q0)) h.d
theorem Sm.qd(h:Sm p q): q.den<4294967296:=nN (Nat.le_mul_of_pos_left _ (Nat.pos_of_ne_zero h.p0)) h.d
theorem Sm.le{p' q':PR}(h:Sm p q)(h1:p'.num<=p.num)(h2:p'.den<=p.den)(h3:q'.num<=q.num)(h4:q'.den<=q.den)(h5:p'.den≠0)(h6:q'.den≠0): Sm p' q':=by
 have a:=h.pn;have b:=h.qn;refine⟨h5,h6,om,om,Nat.lt_of_le_of_lt (Nat.mul_le_mul h2 h4) h.d,Nat.lt_of_le_of_lt (Nat.add_le_add (Nat.mul_le_mul h1 h4) (Nat.mul_le_mul h3 h2)) h.s⟩
theorem Sm.nrm(h:Sm p q): Sm p.norm q.norm:=h.le (Gj _) (Vs h.p0) (Gj _) (Vs h.q0) (PR.norm_val h.p0).2 (PR.norm_val h.q0).2
theorem Qww(hv:RtX N w v p)(hu:RtX N' w u q)(h:Sm p q):
  Ret Tryz.prog 159 [v,u] w λr w'=>RtX (Ol w) w' r (PR.sub p q)/\Ext w w':=by
 have ho:Sm p q.opp:=h.le (nR _) (nR _) (Gj ⟨!q.neg,q.num,q.den⟩) (Vs (q:=⟨!q.neg,q.num,q.den⟩) h.q0) h.p0 (PR.opp_val h.q0).2;have hn:=ho.nrm;have aa:=h.pd;have a8:=h.qd;have a9:=h.pn;have ai:=h.qn;have ad:=ho.qd;have ac:=ho.qn;obtain⟨A,c,B,d,rfl,hA,hB⟩:=hv.sl;obtain⟨C,e,D,f,rfl,hC,hD⟩:=hu.sl;refine Jz Tryz.func159 Tryz.ntmps159 rfl kr rfl ?_;refine ρ ?_;refine bx ?_;intro w1 b1 a5 ak a3;refine ρ ?_;refine bx ?_;intro w2 b2 a1 aj a2;refine ρ ?_;refine alc Zo ?_;intro w3 b3 Z af a6;have O:=(a5.trans a1).trans Z;have G:Ext w3 w3.drew:=(Ext.refl w3).drew;have a3:=((a3.ext a1).ext Z).ext G;have a2:=(a2.ext Z).ext G;have F:=O.trans G;refine ρ ?_;refine dr [(0,0),(0,1),(1,2),(1,3),(2,4)] kr ?_;refine ρd ?_;refine Qj (cs:=[.bool p.neg,.slice A _ c,.slice B _ d]) (λj u hu=>a3.at hu) ?_;refine ρd ?_;refine Qj (cs:=[.bool q.neg,.slice C _ e,.slice D _ f]) (λj u hu=>a2.at hu) ?_
 refine ρd ?_;refine dcl (Jhp (N:=N') (q:=q) ⟨_,_,rfl,hC.ext F,hD.ext F⟩ om a8) ?_;rintro y w4 ⟨hY,J⟩;refine⟨J,?_⟩;refine ρd ?_;refine dcl (Qvb (N:=N) (p:=p) (q:=q.opp) ⟨_,_,rfl,(hA.ext F).ext J,(hB.ext F).ext J⟩ hY a9 aa ac ad hn.d hn.s) ?_;rintro r w5 ⟨hR,a4⟩;refine⟨a4,?_⟩;obtain⟨A',c',B',d',rfl,_,_⟩:=hR.sl;have U:=(G.trans J).trans a4;refine ρd ?_;refine Jf ?_;refine stb (cs':=[.bool (PR.add p q.opp).neg,.slice A' _ c',.slice B' _ d']) (a6.ext U) ?_ (Qz rfl rfl rfl);intro w6 ah ae a7;refine ρ ?_;exact Zb ah ⟨(hR.ol (G.trans J)).box ae a6.lt O,a7 w (O.trans U) (nL (a5.trans a1).size af)⟩
theorem Jhr(hv:RtX N w v p)(hu:RtX N' w u q)(h0:q.norm.num≠0)(hp0:p.den≠0)(hq0:q.den≠0)(h1:p.num<4294967296)(h2:p.den<4294967296)(h3:q.num<4294967296)(h4:q.den<4294967296)(h5:p.den*q.num<4294967296):
  Ret Tryz.prog 158 [v,u] w λr w'=>(∃ x,r=.tuple #[x,.int .i64 0]/\RtX (Ol w) w' x (PR.div p q))/\Ext w w':=by
 have a1:=Gj q;have a2:=Vs hq0;have a3:=Vs hp0;have a4:=Vs (q:=⟨q.norm.neg,q.norm.den,q.norm.num⟩) h0;obtain⟨A,c,B,d,rfl,hA,hB⟩:=hv.sl;obtain⟨C,e,D,f,rfl,hC,hD⟩:=hu.sl;refine Jz Tryz.func158 Tryz.ntmps158 rfl kr rfl ?_;refine ρ ?_;refine bx ?_;intro w1 b1 a9 aq Z;refine ρ ?_;refine bx ?_;intro w2 b2 a8 an J;refine ρ ?_;refine alc Zo ?_;intro w3 b3 a7 am ap;have O:=(a9.trans a8).trans a7;have l1:=Z.lt;have l2:=J.lt;have Z:=(Z.ext a8).ext a7;have J:=J.ext a7;refine ρ ?_;refine ldW J ?_;refine ρ ?_;refine cl (Zh (N:=N') (q:=q) ⟨_,_,rfl,hC.ext O,hD.ext O⟩ om h4) ?_;rintro y w4 ⟨hY,U⟩;obtain⟨C5,e5,D5,f5,rfl,ad,ac⟩:=hY.sl;refine ρ ?_;refine stb (cs':=[.bool q.norm.neg,.slice C5 _ e5,.slice D5 _ f5]) (J.ext U) ?_ (Qz rfl rfl rfl);intro w5 G aa aj;have ah:=J.lt;have a5:GrN (Ol w3) w4 w5:=GrN.by aa λk ek=>by injection ek with ek;subst ek;exact ah
 have ad:=ad.gr a5;have ac:=ac.gr a5;have F:Ext w w5:=aj w (O.trans U) (nL a9.size an);have af:Blk w5 b1 _ _:=(Z.ext U).grown aa (λe=>by injection e with e;omega);have a6:Blk w5 b3 _ _:=(ap.ext U).grown aa (λe=>by injection e with e;omega);refine ρ ?_;refine ld (G.at (i:=1) rfl) ?_;refine ρ ?_;rw[len0,decide_eq_false h0];refine ρ ?_;refine ldW af ?_;refine ρ ?_;refine ld (G.at (i:=0) rfl) ?_;refine ρ ?_;refine ld (G.at (i:=2) rfl) ?_;refine ρ ?_;refine ld (G.at (i:=1) rfl) ?_;refine ρ ?_;refine bld (Yd _ _ _ _ _ _ _ _) ?_;refine ρ ?_;refine cl (Jyh (N:=N) (p:=p) (q:=⟨q.norm.neg,q.norm.den,q.norm.num⟩) ⟨_,_,rfl,hA.ext F,hB.ext F⟩ ⟨_,_,rfl,ac,ad⟩ h1 h2 (by show q.norm.den<_;omega) (by show q.norm.num<_;omega) (nN (Nat.mul_le_mul a3 (nL a4 a1)) h5)) ?_;rintro r w6 ⟨hR,ae⟩;have eq:PR.mul p ⟨q.norm.neg,q.norm.den,q.norm.num⟩=PR.div p q:=by unfold PR.div;rw[if_neg h0]
 rw[eq]at hR;obtain⟨A',c',B',d',rfl,_,_⟩:=hR.sl;refine ρ ?_;refine stb (cs':=[.bool (PR.div p q).neg,.slice A' _ c',.slice B' _ d']) (a6.ext ae) ?_ (Qz rfl rfl rfl);intro w7 ao ak ai;refine ρ ?_;exact Zz ao ⟨⟨_,rfl,hR.box ak a6.lt F⟩,ai w (F.trans ae) (nL (a9.trans a8).size am)⟩
theorem Qwz(hv:RtX N w v p)(hu:RtX N' w u q)(hN:∀ k,N k->k<w.heap.size)(hN':∀ k,N' k->k<w.heap.size)(h1:p.num<4294967296)(h2:p.den<4294967296)(h3:q.num<4294967296)(h4:q.den<4294967296):
  Ret Tryz.prog 125 [v,u] w λr w'=>r=.int .i64 (PR.cmp p q)/\Ext w w':=by
 have s1:=Qm (n:=p.num) om;have s2:=Qm (n:=p.den) om;have s3:=Qm (n:=q.num) om;have s4:=Qm (n:=q.den) om;have t2:p.dvs<4294967296:=by unfold PR.dvs;split<;>omega
 have t4:q.dvs<4294967296:=by unfold PR.dvs;split<;>omega
 have s5:=Qm (n:=p.dvs) om;have s6:=Qm (n:=q.dvs) om;obtain⟨A,c,B,d,rfl,hA,hB⟩:=id hv.sl;obtain⟨C,e,D,f,rfl,hC,hD⟩:=id hu.sl;refine Jz Tryz.func125 Tryz.ntmps125 rfl kr rfl ?_;refine ρ ?_;refine bx ?_;intro w1 b1 ae am G;refine ρ ?_;refine bx ?_;intro w2 b2 ac ak Z;have O:=ae.trans ac;have G:=G.ext ac;refine ρ ?_;refine ldW G ?_;refine ρ ?_;refine cl (Uw (hv.ext O) om) ?_;rintro _ w3 ⟨rfl,a7⟩;refine ρ ?_;refine ldW (Z.ext a7) ?_;refine ρ ?_;refine cl (Uw ((hu.ext O).ext a7) om) ?_;rintro _ w4 ⟨rfl,ad⟩;have J:=a7.trans ad;have a1:=O.trans J;have G:=G.ext J;have Z:=Z.ext J;refine ρ ?_;refine ci (λh=>?_) (λh=>?_)
 .have a8:p.sign≠q.sign:=by simpa using h
  refine ρ ?_;refine cl (Jch _ _ _) ?_;rintro _ w5 ⟨rfl,rfl⟩;refine ρ ?_;refine Jq ⟨?_,a1⟩;unfold PR.cmp sgn;rw[if_pos a8];congr 1
  split
  .rfl
  rw[if_pos om]
 have a8:¬ p.sign≠q.sign:=by simpa using h
 have a4:Ext w4 w4.drew:=(Ext.refl w4).drew;have a3:=G.ext a4;have a2:=Z.ext a4;have y:=a1.trans a4;refine ρ ?_;refine dr [(0,0),(0,1),(0,2),(0,3),(0,6),(0,7),(0,8),(1,4),(1,5),(1,9),(1,10),(1,11),(0,12),(0,13)] kr ?_;refine ρd ?_;refine dld (a3.at (i:=1) rfl) ?_;refine ρd ?_;refine Qj (cs:=[.bool q.neg,.slice C _ e,.slice D _ f]) (λj u hu=>a2.at hu) ?_;refine ρd ?_;refine dld (a2.at (i:=1) rfl) ?_;refine ρd ?_;refine Qj (cs:=[.bool p.neg,.slice A _ c,.slice B _ d]) (λj u hu=>a3.at hu) ?_;refine ρd ?_;refine dcl (Jhq (hu.ext y) (λk hk=>nM (hN' k hk) y.size) om) ?_;rintro x5 w5 ⟨aj,a6⟩;refine⟨a6,?_⟩;refine ρd ?_;refine dcl (Vb ((hA.1.ext y).ext a6) aj.1 om om) ?_;rintro x6 w6 ⟨ai,_,aa⟩;refine⟨aa,?_⟩;have F:=(y.trans a6).trans aa;refine ρd ?_;refine dcl (Jhq (hv.ext F) (λk hk=>nM (hN k hk) F.size) om) ?_
 rintro x7 w7 ⟨ah,U⟩;refine⟨U,?_⟩;refine ρd ?_;refine dcl (Vb ((hC.1.ext F).ext U) ah.1 om om) ?_;rintro x8 w8 ⟨af,_,a5⟩;refine⟨a5,?_⟩;refine ρd ?_;refine dcl (Jqp ((ai.ext U).ext a5) af) ?_;rintro _ w9 ⟨rfl,a9⟩;refine⟨a9,?_⟩;refine ρd ?_;refine ρ ?_;refine Jq ⟨congrArg (Value.int .i64) ?_,((F.trans U).trans a5).trans a9⟩;unfold PR.cmp Vg;rw[if_neg a8];have e:(if p.num*q.dvs<q.num*p.dvs then(-1:Int) else if q.num*p.dvs<p.num*q.dvs then 1 else 0)=if p.num*q.dvs<q.num*p.dvs then -1 else if p.num*q.dvs=q.num*p.dvs then 0 else 1:=by
  split
  .rfl
  split
  .rw[if_neg om]
  rw[if_pos om]
 rw[e];have h3:(if p.num*q.dvs<q.num*p.dvs then(-1:Int) else if p.num*q.dvs=q.num*p.dvs then 0 else 1) = -1∨(if p.num*q.dvs<q.num*p.dvs then(-1:Int) else if p.num*q.dvs=q.num*p.dvs then 0 else 1)=0∨(if p.num*q.dvs<q.num*p.dvs then(-1:Int) else if p.num*q.dvs=q.num*p.dvs then 0 else 1)=1:=by
  split
  .exact .inl rfl
  split
  .exact .inr (.inl rfl)
  exact .inr (.inr rfl)
 have h4:p.sign=0∨p.sign = -1∨p.sign=1:=by
  unfold PR.sign;split
  .exact .inl rfl
  split
  .exact .inr (.inl rfl)
  exact .inr (.inr rfl)
 rcases h3 with h3|h3|h3<;>rcases h4 with h4|h4|h4<;>rw[h3,h4]<;>decide
open Go.RowKit Pl Go.Wk
variable {d k n ty:Nat}{N:Nat->Prop}{a b f p q:PR}{α:Type}{fv ov rv v:Value}{w:World}
theorem ERt: ElT Tryz.prog 80 84 3 56 (.agg #[.bool false,.slice none 0 0,.slice none 0 0]):=⟨Tryz.underlying80,info_parts kr,rfl,by decide⟩
def prz: PR:=⟨false,0,0⟩
theorem rtc0(N:Nat->Prop)(w:World): RtC N w [.bool false,.slice none 0 0,.slice none 0 0] prz:=⟨_,_,rfl,NatX.nil w,NatX.nil w⟩
theorem Qgp(n:Nat)(p:List Value×α): Jd (List.replicate n p)=Ya n λ_=>p.1:=by
 induction n with
 | zero=>rfl
 | succ n ih=>
  rw[List.replicate_succ'];have e:Jd (List.replicate n p++[p])=Jd (List.replicate n p)++p.1:=by simp[Jd]
  rw[e,ih];simp[Ya,List.range_succ,List.flatMap_append]
theorem mkRt{al:AL}{Q:Exit->Act->World->Prop}{ops:Array Oper}{rest:List Oper}{pos:String}{aft:Array Edge}{x y:Operand}(m:Nat)(hm:m<=1000)(kk:∀ w1 A,Ext w w1->(∀ N,OX 84 3 RtC N w1 w.heap.size (.slice A m m) (List.replicate m prz))->(∀ g,A=some g->w.heap.size<=g.block)->WL Tryz.prog n ops Q rest ((d,.slice A m m)::al) w1)(hx:ev al x=some (.int .i64 (m:Int)):=by rfl)(hy:ev al y=some (.int .i64 (m:Int)):=by rfl)(hd:Nat.blt d n=true:=by rfl):
  WL Tryz.prog n ops Q (⟨some d,.makeSlice 80 x y,ty,pos,aft,none⟩::rest) al w:=by
 refine mkn ERt m om (by unfold maxLen;omega) ?_ hx hy rfl rfl hd;intro w1 A u F G;refine kk w1 A u (λN=>⟨List.replicate m ([.bool false,.slice none 0 0,.slice none 0 0],prz),by simp,?_,λp D=>?_⟩) G
 .rw[List.length_replicate,Qgp];have e:(madeCells (Value.agg #[.bool false,.slice none 0 0,.slice none 0 0]).cells (m*3)).toList=Ya m λ_=>[.bool false,.slice none 0 0,.slice none 0 0]:=Qcz (zs:=[.bool false,.slice none 0 0,.slice none 0 0]) (by simp) m;rw[<-e];exact F
 rw[List.eq_of_mem_replicate D];exact⟨rfl,rtc0 N w1⟩
def mix(l' l:List α)(k:Nat): List α:=l'.take k++l.drop k
theorem Uh{l' l:List α}(h:l'.length=l.length)(hk:k<=l.length): (mix l' l k).length=l.length:=by
 simp[mix,h];omega
theorem Jkb{l' l:List α}(h:l'.length=l.length)(hk:k<l.length): (mix l' l k)[k]?=l[k]?:=by
 rw[mix,List.getElem?_append_right (by simp;omega),List.length_take,Nat.min_eq_left om,Nat.sub_self,List.getElem?_drop,Nat.add_zero]
theorem Ug{l' l:List α}(h:l'.length=l.length)(hk:k<l.length){x:α}(hx:l'[k]?=some x): (mix l' l k).set k x=mix l' l (k+1):=by
 have y:l'.take (k+1)=l'.take k++[x]:=by rw[List.take_add_one,hx];rfl
 have u:l.drop k=l[k]::l.drop (k+1):=List.drop_eq_getElem_cons hk;rw[mix,mix,y,u,List.set_append_right _ _ (by simp;omega),List.length_take,Nat.min_eq_left om,Nat.sub_self,List.set_cons_zero,List.append_assoc];rfl
theorem Jyt{l' l:List α}(h:l'.length=l.length)(hk:k<l.length)(hx:l'[k]?=l[k]?): mix l' l k=mix l' l (k+1):=by
 rw[<-Ug h hk (x:=l[k]) (by rw[hx];exact gE hk)];refine List.ext_getElem? λi=>?_;by_cases e:k=i
 .subst e;rw[List.getElem?_set_self (by rw[Uh h om];exact hk),Jkb h hk,List.getElem?_eq_getElem hk]
 rw[List.getElem?_set_ne e]
theorem Gu(l' l:List α): mix l' l 0=l:=by simp[mix]
theorem Jqq{l' l:List α}(h:l'.length=l.length): mix l' l l.length=l':=by simp[mix,<-h]
theorem RtX.cell(h:RtX N w v q): ∃ A c B d,v=.agg #[.bool q.neg,.slice A (Jj q.num).length c,.slice B (Jj q.den).length d]/\RtC N w [.bool q.neg,.slice A (Jj q.num).length c,.slice B (Jj q.den).length d] q:=by
 obtain⟨A,c,B,d,e,y,u⟩:=h.sl;exact⟨A,c,B,d,e,_,_,rfl,y,u⟩
theorem RtC.sl{N:Nat->Prop}{w:World}{cs:List Value}{q:PR}(h:RtC N w cs q): ∃ A c B d,cs=[.bool q.neg,.slice A (Jj q.num).length c,.slice B (Jj q.den).length d]/\RtX N w (.agg #[.bool q.neg,.slice A (Jj q.num).length c,.slice B (Jj q.den).length d]) q:=by
 obtain⟨x,y,e,D,u⟩:=h;obtain⟨A,c,rfl⟩:=D.1.sl;obtain⟨B,d,rfl⟩:=u.1.sl;exact⟨A,c,B,d,e,_,_,rfl,D,u⟩
theorem RtC.one(cs:List Value)(q:PR)(h:RtC N w cs q): ∀ u∈cs,u.oneCell'=true:=by
 obtain⟨A,c,B,d,rfl,_⟩:=h.sl;exact Qz rfl rfl rfl
abbrev Ov(w:World)(v:Value): Nat->Prop:=λk=>k<w.heap.size∨v.ownBlock=some k
theorem Jxm(n:Nat)(hn:n<=1000)(w:World): Ret Tryz.prog 123 [.int .i64 (n:Int)] w λu w'=>OX 84 3 RtC (Ov w u) w' w.heap.size u (List.replicate n pr0)/\Ext w w':=by
 refine Jz Tryz.func123 Tryz.ntmps123 rfl kr rfl ?_;refine ρ ?_;refine mkRt n hn ?_;intro w1 A a2 hO hA;have hO:=hO (Ov w (.slice A n n));refine ρ ?_;refine Jl (fun (k:Nat)=>[(3,.slice A n n),(8,.int .i64 (n:Int)),(9,.int .i64 (k:Int))]) (λk w'=>k<=n/\Ext w w'/\OX 84 3 RtC (Ov w (.slice A n n)) w' w.heap.size (.slice A n n) (mix (List.replicate n pr0) (List.replicate n prz) k)) (λk=>n-k) 0 sB ⟨Nat.zero_le _,a2,by rw[Gu];exact hO⟩ ?_;rintro k w2 ⟨hk,F,y⟩;have Z:(mix (List.replicate n pr0) (List.replicate n prz) k).length=n:=by rw[Uh (by simp) (by simpa using hk)];simp
 refine ρ ?_;refine ci (λh=>?_) (λh=>?_)
 .have G:k<n:=by have:=oT h;omega
  clear h;refine ρ ?_;refine cl (Gp 0 (by decide) (by decide) w2) ?_;rintro r w3 ⟨hr,O⟩;have e0:PR.int 0=pr0:=rfl;rw[e0]at hr;obtain⟨C,e,D,f,rfl,hc⟩:=hr.cell;have J:=y.ext RtC.sta O;obtain⟨A',c',cs,ev,_,U,_⟩:=id J.el;rw[Z]at ev U;injection ev with ev1 ev2 ev3
  subst ev1;refine ρ ?_;refine ixq 3 k U G ?_;refine ρ ?_;obtain⟨_,_,_,_,a3⟩:=id J.form;have a5:k<(mix (List.replicate n pr0) (List.replicate n prz) k).length:=om
  refine stX RtC.sta J Z.symm a5 (cs:=[.bool pr0.neg,.slice C _ e,.slice D _ f]) (a:=pr0) (RtC.sta.old hc λj hj=>.inl ?_) (λg hg=>.inr hg) (Qz rfl rfl rfl) ?_
  .rcases hj with hj|hj
   .exact nM hj F.size
   obtain⟨_,_,_,_,h3⟩:=id y.form;exact(h3 j hj).2
  intro w4 a1 a6;rw[Ug (l':=List.replicate n pr0) (l:=List.replicate n prz) (x:=pr0) (by simp) (by simpa using G) (by simp[G])]at a1;refine ρ ?_;exact Jg (k+1) sO ⟨om,Jr (F.trans O) a6 (λg hg=>(a3 g hg).1),a1⟩ om
 have a4:k=n:=by have:=oF h;omega
 subst a4;have e:=Jqq (l':=List.replicate k pr0) (l:=List.replicate k prz) (by simp);rw[List.length_replicate]at e;rw[e]at y;refine ρ ?_;exact Jq ⟨y,F⟩
structure Sl(q:PR): Prop where
 d0:q.den≠0
 n:q.num<=720
 d:q.den<=120
theorem mul_le'(hp:p.den≠0)(hq:q.den≠0): (PR.mul p q).num<=p.num*q.num/\(PR.mul p q).den<=p.den*q.den:=by
 have y:=(PR.norm_val hp).2;have u:=(PR.norm_val hq).2;refine⟨nL (Gj ⟨p.norm.neg != q.norm.neg,p.norm.num*q.norm.num,p.norm.den*q.norm.den⟩) (Nat.mul_le_mul (Gj p) (Gj q)),Nat.le_trans (Vs (q:=⟨p.norm.neg != q.norm.neg,p.norm.num*q.norm.num,p.norm.den*q.norm.den⟩) (Nat.mul_ne_zero y u)) (Nat.mul_le_mul (Vs hp) (Vs hq))⟩
theorem Sl.sm(ha:Sl a)(hf:Sl f)(hb:Sl b): Sm a (PR.mul f b):=by
 obtain⟨O,J⟩:=mul_le' hf.d0 hb.d0;have G:f.num*b.num<=720*720:=Nat.mul_le_mul hf.n hb.n;have F:f.den*b.den<=120*120:=Nat.mul_le_mul hf.d hb.d;have D:a.den*(PR.mul f b).den<=120*14400:=Nat.mul_le_mul ha.d om;have y:a.num*(PR.mul f b).den<=720*14400:=Nat.mul_le_mul ha.n om;have u:(PR.mul f b).num*a.den<=518400*120:=Nat.mul_le_mul om ha.d;have:=ha.n;exact⟨ha.d0,(PR.mul_val hf.d0 hb.d0).2,om,om,om,om⟩
theorem Sl.mm(hf:Sl f)(hb:Sl b): f.norm.den*b.norm.den<4294967296:=by
 have u:f.norm.den*b.norm.den<=120*120:=Nat.mul_le_mul (nL (Vs hf.d0) hf.d) (nL (Vs hb.d0) hb.d);omega
theorem Sl.len(h:Sl q): (Jj q.num).length<=1000:=by have:=Qm (n:=q.num) (by have:=h.n;omega);omega
def Vh(f a b:PR): PR:=if b.sign≠0 then PR.sub a (PR.mul f b) else a
theorem Jrl{row other:List PR}(hr:GX 3 RtC N w rv row)(ho:GX 3 RtC N w ov other)(hf:RtX N w fv f)(hN:∀ k,N k->k<w.heap.size)(hl:other.length=row.length)(h0:0<row.length)(hm:row.length<=1000)(hs:∀ q∈row,Sl q)(hs2:∀ q∈other,Sl q)(hsf:Sl f): Ret Tryz.prog 128 [rv,ov,fv] w λu w'=>GX 3 RtC N w' u (Xe row other f)/\Ext w w':=by
 obtain⟨A,c,_,rfl,hc,_,_,_,_⟩:=id hr.el;obtain⟨B,d,_,rfl,hd,_,_,_,_⟩:=id ho.el;obtain⟨C,e,D,g,rfl,hC,hD⟩:=id hf.sl;refine Jz Tryz.func128 Tryz.ntmps128 rfl kr rfl ?_;refine ρ ?_;refine bx ?_;intro w1 b1 au bz an;refine ρ ?_;refine mkRt row.length hm ?_;intro w2 O ar hO aj;have hO:=hO (λk=>N k∨(Value.slice O row.length row.length).ownBlock=some k);have aa:=au.trans ar;have a4:∀ {k},(Value.slice O row.length row.length).ownBlock=some k->w.heap.size<=k:=fun {k} h=>by
  cases O with
  | none=>cases h
  | some ad=>injection h with h;subst h;exact nL au.size (aj ad rfl)
 have ak:∀ k,(N k∨(Value.slice O row.length row.length).ownBlock=some k)->N k∨w.heap.size<=k:=λk G=>G.elim .inl λh=>.inr (a4 h);have hr:=hr.old RtC.sta (by decide) ak;have ho:=ho.old RtC.sta (by decide) ak;have hf:=hf.old ak;generalize hM:(λk=>N k∨(Value.slice O row.length row.length).ownBlock=some k)=M at *
 have b9:∀ g,(Value.slice O row.length row.length).ownBlock=some g->M g:=λg hg=>by rw[<-hM];exact .inr hg
 have bp:∀ {w5 w':World} {ls:List PR},OX 84 3 RtC M w5 w1.heap.size (.slice O row.length row.length) ls->Ext w w5->Ext w5 w'->∀ k,M k->k<w'.heap.size:=fun {w5 w' ls} h hx hx' k G=>by
  rw[<-hM]at G;rcases G with G|G
  .exact nM (hN k G) (hx.trans hx').size
  obtain⟨_,_,_,_,h3⟩:=id h.form;exact nM (h3 k G).2 hx'.size
 refine ρ ?_;refine cpX RtC.sta hO (by simp) (hr.ext RtC.sta (by decide) aa) h0 (by decide) (λcs a h=>h) RtC.one b9 ?_;intro w3 bo b2;have a9:Ext w w3:=Jr aa b2 λk G=>a4 G;have ba:Blk w3 b1 _ _:=(an.ext ar).grown b2 λe=>by
  have h1:=an.lt;have:=a4 e.symm;cases O with
  | none=>cases e
  | some ad=>injection e with e;have:=aj ad rfl;omega
 refine ρ ?_;refine ldW ba ?_;refine ρ ?_;refine cl (Uw (hf.ext a9) hsf.len) ?_;rintro _ w4 ⟨rfl,af⟩;have b8:=bo.ext RtC.sta af;have bq:=ba.ext af;have a8:=a9.trans af;have bb:∀ {w':World} {ls:List PR},OX 84 3 RtC M w' w1.heap.size (.slice O row.length row.length) ls->ls.length<=1000->GX 3 RtC N w' (.slice O row.length row.length) ls:=fun {w' ls} h hl=>h.gx RtC.sta om λk G=>⟨by rw[<-hM];exact .inl G,λe=>by have:=a4 e;have:=hN k G;omega⟩
 refine ρ ?_;refine ci (λh=>?_) (λh=>?_)
 .have hz:f.sign=0:=eq_of_beq h;refine ρ ?_;refine Jq ⟨?_,a8⟩;unfold Xe;rw[if_pos hz];exact bb b8 hm
 have hz:f.sign≠0:=λe=>by rw[e]at h;simp at h
 have bj:Xe row other f=List.zipWith (Vh f) row other:=by unfold Xe;rw[if_neg hz];rfl
 have a1:(List.zipWith (Vh f) row other).length=row.length:=by simp[hl]
 refine ρ ?_;refine Jl (fun (k:Nat)=>[(1,.slice B other.length d),(5,.pointer (some ⟨b1,0,none⟩)),(7,.slice O row.length row.length),(20,.int .i64 (row.length:Int)),(21,.int .i64 (k:Int))])
  (λk w'=>k<=row.length/\Ext w w'/\Blk w' b1 84 [.bool f.neg,.slice C (Jj f.num).length e,.slice D (Jj f.den).length g]/\OX 84 3 RtC M w' w1.heap.size (.slice O row.length row.length) (mix (List.zipWith (Vh f) row other) row k)) (λk=>row.length-k) 0 sB ⟨Nat.zero_le _,a8,bq,by rw[Gu];exact b8⟩ ?_
 rintro k w5 ⟨G,U,am,J⟩;have ax:(mix (List.zipWith (Vh f) row other) row k).length=row.length:=Uh a1 G;refine ρ ?_;refine ci (λh=>?_) (λh=>?_)
 .have Z:k<row.length:=by have:=oT h;omega
  clear h;obtain⟨B',d',_,ev,_,_,av,_,bh⟩:=id (ho.ext RtC.sta (by decide) U).el;injection ev with ev1 ev2 ev3
  subst ev1;obtain⟨ce,bw,bi,b5⟩:=bh k om;obtain⟨E,x1,F,x2,rfl,aw⟩:=bi.sl;have bf:other[k]?=some other[k]:=gE om;have a3:=hs2 other[k] (List.getElem_mem _);have ah:row[k]?=some row[k]:=gE Z;have bd:=hs row[k] (List.getElem_mem _);refine ρ ?_;refine ixq 3 k av om ?_;refine ρ ?_;refine lds (λj u hu=>b5 j u hu) ?_;refine ρ ?_;refine cl (Uw aw a3.len) ?_;rintro _ w6 ⟨rfl,a6⟩;have ap:(List.zipWith (Vh f) row other)[k]?=some (Vh f row[k] other[k]):=by simp[List.getElem?_zipWith,ah,bf]
  refine ρ ?_;refine ci (λh=>?_) (λh=>?_)
  .have ae:other[k].sign≠0:=λe=>by rw[e]at h;simp at h
   have ao:Vh f row[k] other[k]=PR.sub row[k] (PR.mul f other[k]):=by unfold Vh;rw[if_pos ae]
   have bc:Ext w6 w6.drew:=(Ext.refl w6).drew;have y:=a6.trans bc;have bn:=J.ext RtC.sta y;obtain⟨O',_,_,ev,_,ai,b3⟩:=id bn.el;rw[ax]at ev ai;injection ev with ev1 ev2 ev3
   subst ev1;obtain⟨ce,br,ac,b4⟩:=b3 k om;have e2:(mix (List.zipWith (Vh f) row other) row k)[k]'(by omega)=row[k]:=by
    have:=Jkb a1 Z;rw[List.getElem?_eq_getElem om,ah]at this;injection this
   rw[e2]at ac;obtain⟨E2,y1,F2,y2,rfl,be⟩:=ac.sl;refine ρ ?_;refine dr [(0,0),(0,1),(0,2),(0,3),(0,4),(0,5),(0,6),(0,7),(0,8),(0,9),(0,10),(1,11),(1,12),(0,13),(2,14)] kr ?_;refine ρd ?_;refine Qp 3 k ai Z ?_;refine ρd ?_;refine Qj (λj u hu=>b4 j u hu) ?_;refine ρd ?_;refine Qj (cs:=[.bool f.neg,.slice C _ e,.slice D _ g]) (λj u hu=>(am.ext y).at hu) ?_;refine ρd ?_;refine Qp 3 k (av.ext y) om ?_;refine ρd ?_;refine Qj (λj u hu=>Xz y (b5 j u hu)) ?_;refine ρd ?_;have bu:=hsf.n;have bv:=hsf.d;have bs:=a3.n;have bt:=a3.d;refine dcl (Jyh ((hf.ext U).ext y) (aw.ext y) om om om om (hsf.mm a3)) ?_;rintro x7 w7 ⟨bm,a5⟩;refine⟨a5,?_⟩;refine ρd ?_;refine dcl (Qww (be.ext a5) bm (bd.sm hsf a3)) ?_;rintro x8 w8 ⟨b6,aq⟩;refine⟨aq,?_⟩;rw[<-ao]at b6;have a7:=a5.trans aq;have a2:=y.trans a7;obtain⟨G1,g1,G2,g2,rfl,bl⟩:=b6.cell
   refine ρd ?_;refine Qp 3 k (ai.ext a7) Z ?_;refine ρd ?_;refine Jf ?_;refine stX RtC.sta (J.ext RtC.sta a2) ax.symm (show k<_ by omega) (cs:=[.bool (Vh f row[k] other[k]).neg,.slice G1 _ g1,.slice G2 _ g2]) (a:=Vh f row[k] other[k]) (RtC.sta.old bl λj hj=>.inl ?_) b9 (Qz rfl rfl rfl) ?_
   .exact bp J U (y.trans a5) j hj
   intro w9 b7 ay;rw[Ug a1 Z ap]at b7;refine ρ ?_;refine Jg (k+1) sO ⟨om,Jr (U.trans a2) ay (λg hg=>a4 hg),(am.ext a2).grown ay ?_,b7⟩ om;intro e;have h1:=an.lt;cases O with
   | none=>cases e
   | some ad=>injection e with e;have:=aj ad rfl;omega
  have ae:other[k].sign=0:=by simpa using h
  have ao:(List.zipWith (Vh f) row other)[k]?=row[k]?:=by rw[ap,ah];unfold Vh;rw[if_neg (by simp[ae])]
  rw[Jyt a1 Z ao]at J;refine ρ ?_;exact Jg (k+1) sO ⟨om,U.trans a6,am.ext a6,J.ext RtC.sta a6⟩ om
 have bg:k=row.length:=by have:=oF h;omega
 subst bg;rw[Jqq a1]at J;refine ρ ?_;refine Jq ⟨?_,U⟩;rw[bj];exact bb J om
end Go.Proofs.YtebiphhfkdbpfaaGreat
namespace Go.Wk
open Go.RowKit
variable {n ty:Nat}
theorem stF{P:Program}{al:AL}{w:World}{Q:Exit->Act->World->Prop}{ops:Array Oper}{rest:List Oper}{pos:String}{aft:Array Edge}{tt:TT}[h:Tab P tt]{x y:Operand}{t g bt i:Nat}{k:TK}{u v:Value}{cs:List Value}(hb:Blk w g bt cs)(hu:cs[i]?=some u)(kk:∀ w1,Blk w1 g bt (cs.set i v)->w.grownBy w1 (some g)->WL P n ops Q rest al w1)(ht:tk tt t=some k:=by rfl)(hk:k.size=1:=by rfl)(hp:Zw k.desc=true:=by rfl)(hx:ev al x=some (.pointer (some ((⟨g,0,none⟩:Addr).add i))):=by rfl)(hy:ev al y=some v:=by rfl)(hv:v.oneCell'=true:=by rfl):
  WL P n ops Q (⟨none,.store t x y,ty,pos,aft,none⟩::rest) al w:=by
 have e:(⟨g,0,none⟩:Addr).add i=⟨g,i,none⟩:=by rw[Za,Nat.zero_add]
 refine sto (hb.at hu) ?_ (kk _ ?_ ⟨rfl,rfl,rfl,by simp[World.setCell],λk hk hn=>Below.heap_setCell w _ v k (λD=>hn (by rw[D,e]))⟩) ht hk hp hx hy hv
 .rw[e];exact hb.frozen i
 rw[e];exact hb.set i v
end Go.Wk
namespace Go.Proofs.YtebiphhfkdbpfaaGreat
open Go.RowKit Pl Go.Wk
attribute [local irreducible] WC WL QX WD WDB WP WN WG WH
variable {cs xs':List Value}{b base base' e' k m m' n sz':Nat}{w:World}
theorem EMx: ElT Tryz.prog 120 80 1 24 (.slice none 0 0):=⟨Tryz.underlying120,info_parts kr,rfl,by decide⟩
def MxC(N:Nat->Prop)(w:World)(cs:List Value)(l:List PR): Prop:=∃ v,cs=[v]/\GX 3 RtC N w v l
theorem MxC.sta: Sta MxC:=⟨λ⟨v,e,h⟩ u=>⟨v,e,h.gr RtC.sta (by decide) u⟩,λ⟨v,e,h⟩ y=>⟨v,e,h.old RtC.sta (by decide) y⟩⟩
def TN(b:Nat)(vr vb:Value): Nat->Prop:=λk=>k=b∨vr.ownBlock=some k∨vb.ownBlock=some k
structure TbV(w:World)(base b:Nat)(vr vg vb:Value)(t:PT): Prop where
 blk:Blk w b 168 [.int .i64 (t.n:Int),.int .i64 (t.m:Int),vr,vg,vb]
 rows:OX 80 1 MxC (TN b vr vb) w base vr t.rows
 goal:GX 3 RtC (TN b vr vb) w vg t.goal
 bas:Qq w base vb t.basis
section
variable {w w':World} {base b:Nat} {vr vg vb:Value} {t:PT}
theorem TbV.ext(h:TbV w base b vr vg vb t)(hx:Ext w w'): TbV w' base b vr vg vb t:=⟨h.blk.ext hx,h.rows.ext MxC.sta hx,h.goal.ext RtC.sta (by decide) hx,Jb h.bas hx⟩
theorem TbV.lt(h:TbV w base b vr vg vb t): ∀ k,TN b vr vb k->k<w.heap.size:=λk u=>by
 rcases u with u|u|u
 .rw[u];exact h.blk.lt
 .obtain⟨_,_,_,_,y⟩:=id h.rows.form;exact(y k u).2
 obtain⟨_,_,_,_,y⟩:=Jy h.bas;exact(y k u).2
theorem TbV.ne1(h:TbV w base b vr vg vb t): vr.ownBlock≠some b:=λe=>by
 obtain⟨ps,_,u,_⟩:=id h.rows;exact h.blk.ne_own u kr e.symm
theorem TbV.ne2(h:TbV w base b vr vg vb t): vb.ownBlock≠some b:=λe=>h.blk.ne_own h.bas kr e.symm
end
theorem Jzn{v v':Value}{cs:List Nat}(h:Qq w base v cs)(h':w.ownsRow base' e' sz' v' m' xs')(hne:Nat.beq 3 e'=false)(h1:v.ownBlock=some k)(h2:v'.ownBlock=some k): False:=by
 rcases h.2 with⟨e,_⟩|⟨g,cap,cur,e,_,hg,_⟩
 .rw[e]at h1;cases h1
 rcases h'.2 with⟨u,_⟩|⟨g',cap',cur',u,_,hg',_⟩
 .rw[u]at h2;cases h2
 rw[e]at h1;rw[u]at h2;injection h1 with h1;injection h2 with h2
 simp only at h1 h2;rw[h1]at hg;rw[h2]at hg';rw[hg]at hg';injection hg' with hg'
 injection hg' with _ hg' _
 rw[hg']at hne;simp at hne
theorem Gl(hB:Blk w b 168 cs)(h0:cs[0]?=some (.int .i64 (n:Int)))(h1:cs[1]?=some (.int .i64 (m:Int)))(hn:n<=1000)(hm:m<=1000):
  Ret Tryz.prog 89 [.pointer (some ⟨b,0,none⟩)] w λu w'=>u=.int .i64 ((n+m+1:Nat):Int)/\Ext w w':=by
 refine Jz Tryz.func89 Tryz.ntmps89 rfl kr rfl ?_;have y:Ext w w.drew:=(Ext.refl w).drew;have D:=hB.ext y;refine ρ ?_;refine dr [(0,0),(0,1),(0,2),(0,3),(0,4),(0,5),(0,6),(0,7),(0,8),(0,9),(0,10)] kr ?_;refine ρd ?_;refine dld (D.at h0) ?_;refine ρd ?_;refine dld (D.at h1) ?_;refine ρd ?_;refine ρ ?_;refine Jq ⟨?_,y⟩;rfl
theorem Qpb(hB:Blk w b 168 cs)(h0:cs[0]?=some (.int .i64 (n:Int)))(h1:cs[1]?=some (.int .i64 (m:Int)))(hn:n<=1000)(hm:m<=1000):
  Ret Tryz.prog 124 [.pointer (some ⟨b,0,none⟩)] w λu w'=>u=.int .i64 ((n+m:Nat):Int)/\Ext w w':=by
 refine Jz Tryz.func124 Tryz.ntmps124 rfl kr rfl ?_;have y:Ext w w.drew:=(Ext.refl w).drew;have D:=hB.ext y;refine ρ ?_;refine dr [(0,0),(0,1),(0,2),(0,3),(0,4),(0,5),(0,6),(0,7),(0,8),(0,9)] kr ?_;refine ρd ?_;refine dld (D.at h0) ?_;refine ρd ?_;refine dld (D.at h1) ?_;refine ρd ?_;refine ρ ?_;refine Jq ⟨?_,y⟩;rfl
open Go.RowKit Pl Go.Wk
variable {c r:Nat}{vb vg vg' vr:Value}
def pvr(t:PT)(r c:Nat): List PR:=dvR (t.rows.getD r []) ((t.rows.getD r []).getD c pr0)
def Uy(t:PT)(r c:Nat): List (List PR):=t.rows.mapIdx λi row=>if i=r then row else Xe row (pvr t r c) (row.getD c pr0)
theorem Ym(t:PT)(r c:Nat): (Uy t r c).length=t.rows.length:=by simp[Uy]
theorem Jht(t:PT)(hr:r<t.rows.length): (Uy t r c).set r (pvr t r c)=(t.pivot r c).rows:=by
 refine List.ext_getElem? λi=>?_;have e:(t.pivot r c).rows=t.rows.mapIdx λi u=>if i=r then pvr t r c else Xe u (pvr t r c) (u.getD c pr0):=rfl
 rw[e];by_cases h:r=i
 .subst h;rw[List.getElem?_set_self (by rw[Ym];exact hr),List.getElem?_mapIdx,List.getElem?_eq_getElem hr];simp
 rw[List.getElem?_set_ne h,Uy,List.getElem?_mapIdx,List.getElem?_mapIdx];cases t.rows[i]? with
 | none=>rfl
 | some x=>
  have hi:¬ i=r:=λe=>h e.symm;simp[hi]
theorem nzS(l:List Nat)(i x:Nat): (Jp (nz l)).set i (.int .i64 (x:Int))=Jp (nz (l.set i x)):=by simp[Jp,nz,List.map_set]
section
variable {w w':World} {base b:Nat} {vr vg vb:Value} {t:PT}
theorem TbV.rowsT(h:TbV w base b vr vg vb t){rows':List (List PR)}(ho:OX 80 1 MxC (TN b vr vb) w' base vr rows')(hg:w.grownBy w' vr.ownBlock): TbV w' base b vr vg vb ⟨t.n,t.m,rows',t.goal,t.basis⟩:=by
 obtain⟨ps,_,u,_⟩:=id h.rows;refine⟨h.blk.grown hg (λe=>h.ne1 e.symm),ho,h.goal.gr RtC.sta (by decide) (GrN.by hg λk y=>.inr (.inl y)),Jo h.bas (N:=λk=>vr.ownBlock=some k) (GrN.by hg λk y=>y) λg F D=>Jzn h.bas u kr F D⟩
theorem TbV.goalT(h:TbV w base b vr vg vb t){goal':List PR}(hB:Blk w' b 168 [.int .i64 (t.n:Int),.int .i64 (t.m:Int),vr,vg',vb])(hG:GX 3 RtC (TN b vr vb) w' vg' goal')(hg:w.grownBy w' (some b)): TbV w' base b vr vg' vb ⟨t.n,t.m,t.rows,goal',t.basis⟩ :=
 ⟨hB,h.rows.gr MxC.sta (M:=λk=>k=b) (GrN.by hg λk u=>by injection u with u;exact u.symm) λk u=>⟨.inl u,λe=>h.ne1 (by rw[e,u])⟩,hG,Jo h.bas (N:=λk=>k=b) (GrN.by hg λk u=>by injection u with u;exact u.symm) λg D y=>h.ne2 (by rw[D,y])⟩
theorem TbV.basT(h:TbV w base b vr vg vb t){basis':List Nat}(ho:Qq w' base vb basis')(hg:w.grownBy w' vb.ownBlock): TbV w' base b vr vg vb ⟨t.n,t.m,t.rows,t.goal,basis'⟩:=by
 obtain⟨ps,_,y,_⟩:=id h.rows;exact⟨h.blk.grown hg (λe=>h.ne2 e.symm),h.rows.gr MxC.sta (M:=λk=>vb.ownBlock=some k) (GrN.by hg λk u=>u) λk u=>⟨.inr (.inr u),λe=>Jzn h.bas y kr u e⟩,h.goal.gr RtC.sta (by decide) (GrN.by hg λk u=>.inr (.inr u)),ho⟩
end
structure TSl(t:PT): Prop where
 row:∀ l∈t.rows,∀ q∈l,Sl q
 goal:∀ q∈t.goal,Sl q
theorem Qvz{w:World}{base b:Nat}{t:PT}(hT:TbV w base b vr vg vb t)(hp:POk t)(hs:TSl t)(hs':TSl (t.pivot r c))(hr:r<t.m)(hc:c<t.n+t.m+1)(hz:((t.rows.getD r []).getD c pr0).norm.num≠0)(hn:t.n<=100)(hm:t.m<=100)(hbase:base<=w.heap.size):
  Ret Tryz.prog 126 [.pointer (some ⟨b,0,none⟩),.int .i64 (r:Int),.int .i64 (c:Int)] w λu w'=>u=.tuple #[]/\∃ vg',TbV w' base b vr vg' vb (t.pivot r c)/\GrN (TN b vr vb) w w':=by
 have a5:r<t.rows.length:=by rw[hp.rows];exact hr
 have hL:t.rows[r]?=some (t.rows.getD r []):=by rw[List.getElem?_eq_getElem a5];simp[List.getD,List.getElem?_eq_getElem a5]
 obtain⟨ax,e0⟩:=hp.row r hr;generalize hrow:t.rows.getD r []=row at *
 have bq:t.right+1=t.n+t.m+2:=rfl;rw[bq]at ax;have ah:c<row.length:=om
 have e9:t.rows.length<=100:=by rw[hp.rows];exact hm
 have c6:row∈t.rows:=List.mem_of_getElem? hL;have d6:t.rows[r]=row:=by rw[List.getElem?_eq_getElem a5]at hL;injection hL
 refine Jz Tryz.func126 Tryz.ntmps126 rfl kr rfl ?_;obtain⟨R,rc,_,rfl,e8,cr,dg⟩:=id hT.rows.el;obtain⟨ce,ec,⟨dz,rfl,hG⟩,bz⟩:=dg r a5;rw[d6]at hG;obtain⟨A,ac,_,rfl,ed,_,ef,_,ee⟩:=id hG.el;have ak:∀ {w'},Ext w w'->w'.cell? (adr R r)=some (.slice A row.length ac):=λhx=>by
  have:=Xz hx (bz 0 _ rfl);rwa [Nat.mul_one,add_zero]at this
 refine ρ ?_;refine ld (hT.blk.at (i:=2) rfl) ?_;refine ρ ?_;refine ix r cr a5 ?_;refine ρ ?_;refine ld (ak (Ext.refl w)) ?_;refine ρ ?_;refine mkRt row.length om ?_;intro w1 O aw hO di;have b5:∀ {k},(Value.slice O row.length row.length).ownBlock=some k->w.heap.size<=k:=fun {k} h=>by
  cases O with
  | none=>cases h
  | some ad=>injection h with h;subst h;exact di ad rfl
 have co:=hT.lt;have de:∀ k,TN b (.slice R t.rows.length rc) vb k->(Value.slice O row.length row.length).ownBlock≠some k:=λk Z e=>by have:=b5 e;have:=co k Z;omega
 have hO:=hO (λk=>TN b (.slice R t.rows.length rc) vb k∨(Value.slice O row.length row.length).ownBlock=some k);have dl:∀ k,(TN b (.slice R t.rows.length rc) vb k∨(Value.slice O row.length row.length).ownBlock=some k)->TN b (.slice R t.rows.length rc) vb k∨w.heap.size<=k:=λk Z=>Z.elim .inl λh=>.inr (b5 h);have dt:=hG.old RtC.sta (by decide) dl;generalize hM:(λk=>TN b (.slice R t.rows.length rc) vb k∨(Value.slice O row.length row.length).ownBlock=some k)=M at *
 have ai:∀ g,(Value.slice O row.length row.length).ownBlock=some g->M g:=λg hg=>by rw[<-hM];exact .inr hg
 have df:=hT.ext aw;refine ρ ?_;refine ld (df.blk.at (i:=2) rfl) ?_;refine ρ ?_;refine ix r (cr.ext aw) a5 ?_;refine ρ ?_;refine ld (ak aw) ?_;refine ρ ?_;refine cpX RtC.sta hO (by simp) (dt.ext RtC.sta (by decide) aw) om (by decide) (λcs a h=>h) RtC.one ai ?_;intro w2 c0 d8;have c2:Ext w w2:=Jr aw d8 λk Z=>b5 Z;obtain⟨O',oc,_,ev,_,dk,dj⟩:=id c0.el;injection ev with ev1 ev2 ev3
 subst ev1;obtain⟨ce,e5,d9,am⟩:=dj c ah;obtain⟨C,cc,D,dc,rfl,cg⟩:=d9.sl;have ch:row[c]=row.getD c pr0:=by simp[List.getD,List.getElem?_eq_getElem ah]
 rw[ch]at cg am;have bp:Sl (row.getD c pr0):=by rw[<-ch];exact hs.row row c6 _ (List.getElem_mem _)
 generalize hdd:row.getD c pr0=dv at *
 refine ρ ?_;refine ixq 3 c dk ah ?_;refine ρ ?_;refine lds (λj u hu=>am j u hu) ?_;refine ρ ?_;refine alc Zo ?_;intro w3 b3 cz db dw;refine ρ ?_;refine stb (cs':=[.bool dv.neg,.slice C _ cc,.slice D _ dc]) dw ?_ (Qz rfl rfl rfl);intro w4 du eb cy;have aj:Ext w2 w4:=cy w2 cz db;refine ρ ?_;have be:∀ k,M k->k<w2.heap.size:=λk Z=>by
  rw[<-hM]at Z;rcases Z with Z|Z
  .exact nM (co k Z) c2.size
  obtain⟨_,_,_,_,h3⟩:=id c0.form;exact(h3 k Z).2
 have af:(dvR row dv).length=row.length:=by simp[dvR]
 refine Jl (fun (k:Nat)=>[(0,.pointer (some ⟨b,0,none⟩)),(1,.int .i64 (r:Int)),(2,.int .i64 (c:Int)),(6,.slice O row.length row.length),(7,.pointer (some ⟨b3,0,none⟩)),(33,.int .i64 (row.length:Int)),(34,.int .i64 (k:Int))])
  (λk w'=>k<=row.length/\Ext w w'/\Blk w' b3 84 [.bool dv.neg,.slice C (Jj dv.num).length cc,.slice D (Jj dv.den).length dc]/\OX 84 3 RtC M w' w.heap.size (.slice O row.length row.length) (mix (dvR row dv) row k)/\RtX M w' (.agg #[.bool dv.neg,.slice C (Jj dv.num).length cc,.slice D (Jj dv.den).length dc]) dv/\w2.heap.size<=w'.heap.size) (λk=>row.length-k) 0 sB ⟨Nat.zero_le _,c2.trans aj,du,by rw[Gu];exact c0.ext RtC.sta aj,cg.ext aj,aj.size⟩ ?_
 rintro k w5 ⟨Z,av,b6,a9,b2,ao⟩;have bs:(mix (dvR row dv) row k).length=row.length:=Uh af Z;refine ρ ?_;refine ci (λh=>?_) (λh=>?_)
 .have y:k<row.length:=by have:=oT h;omega
  clear h;obtain⟨O2,_,_,ev,_,b9,cd⟩:=id a9.el;rw[bs]at ev b9;injection ev with ev1 ev2 ev3
  subst ev1;obtain⟨ce,e6,bi,bj⟩:=cd k om;have ae:row[k]?=some row[k]:=gE y;have e2:(mix (dvR row dv) row k)[k]'(by omega)=row[k]:=by
   have:=Jkb af y;rw[List.getElem?_eq_getElem om,ae]at this;injection this
  rw[e2]at bi;obtain⟨E2,y1,F2,y2,rfl,c5⟩:=bi.sl;have b8:=hs.row row c6 row[k] (List.getElem_mem _);have b7:(dvR row dv)[k]?=some (if row[k].sign≠0 then PR.div row[k] dv else row[k]):=by simp[dvR,ae]
  refine ρ ?_;refine ixq 3 k b9 y ?_;refine ρ ?_;refine lds (λj u hu=>bj j u hu) ?_;refine ρ ?_;refine cl (Uw c5 b8.len) ?_;rintro _ w6 ⟨rfl,an⟩;refine ρ ?_;refine ci (λh=>?_) (λh=>?_)
  .have bo:row[k].sign≠0:=λe=>by rw[e]at h;simp at h
   rw[if_pos bo]at b7;have a8:Ext w6 w6.drew:=(Ext.refl w6).drew;have a4:=an.trans a8;refine ρ ?_;refine drH (λi=>i == 12) ?_;refine Jjb (fuel':=2) 14 [(0,0),(0,1),(0,2),(0,3),(0,4),(0,5),(0,6),(1,7),(0,8),(0,9),(0,11)] #[true,true,true,true,true,true,true,true,true,true,false,true,false] kr kr rfl ?_;refine ρd ?_;refine Qp 3 k (b9.ext a4) y ?_;refine ρd ?_;refine Qj (λj u hu=>Xz a4 (bj j u hu)) ?_;refine ρd ?_;refine Qj (cs:=[.bool dv.neg,.slice C _ cc,.slice D _ dc]) (λj u hu=>(b6.ext a4).at hu) ?_;refine ρd ?_;have f1:=b8.n;have f2:=b8.d;have f3:=bp.n;have f4:=bp.d;have f5:row[k].den*dv.num<=120*720:=Nat.mul_le_mul f2 f3;refine dcl (Jhr (c5.ext a4) (b2.ext a4) hz b8.d0 bp.d0 om om om om om) ?_;rintro _ w7 ⟨⟨x7,rfl,dd⟩,a3⟩;refine⟨a3,?_⟩;have F:=a4.trans a3;obtain⟨G1,g1,G2,g2,rfl,ck⟩:=dd.cell;refine ρd ?_
   refine Qp 3 k (b9.ext F) y ?_;refine ρd ?_;refine Jjc ?_;refine Jqt 10 12 kr rfl rfl rfl ?_ ?_
   .refine ρ ?_;refine Qe (λ_=>Ext.refl _) ?_;refine Zn 12 kr rfl rfl ?_;refine stX RtC.sta (a9.ext RtC.sta F) bs.symm (show k<_ by omega) (cs:=[.bool (PR.div row[k] dv).neg,.slice G1 _ g1,.slice G2 _ g2]) (a:=PR.div row[k] dv) (RtC.sta.old ck λj hj=>.inl (nM (be j hj) (nL ao a4.size))) ai (Qz rfl rfl rfl) ?_;intro w8 aa a1;rw[Ug af y b7]at aa;have ay:GrN M w7 w8:=GrN.by a1 ai
    refine ρ ?_;refine Qe (λh=>absurd h (by decide)) ?_;refine Zx kr ?_;refine ρ ?_;refine Jg (k+1) sO ⟨om,Jr (av.trans F) a1 (λg hg=>b5 hg),(b6.ext F).grown a1 ?_,aa,(b2.ext F).gr ay,Nat.le_trans ao (nL F.size a1.size)⟩ om;intro e;have h1:=be b3 (ai b3 e.symm);omega
   refine ρ ?_;refine stX RtC.sta (a9.ext RtC.sta F) bs.symm (show k<_ by omega) (cs:=[.bool (PR.div row[k] dv).neg,.slice G1 _ g1,.slice G2 _ g2]) (a:=PR.div row[k] dv) (RtC.sta.old ck λj hj=>.inl (nM (be j hj) (nL ao a4.size))) ai (Qz rfl rfl rfl) ?_;intro w8 aa a1;rw[Ug af y b7]at aa;have ay:GrN M w7 w8:=GrN.by a1 ai
   refine ρ ?_;refine Qe (λh=>absurd h (by decide)) ?_;refine Zn 10 kr rfl rfl ?_;refine ρ ?_;refine Qe (λ_=>Ext.refl _) ?_;refine Zx kr ?_;refine ρ ?_;refine Jg (k+1) sO ⟨om,Jr (av.trans F) a1 (λg hg=>b5 hg),(b6.ext F).grown a1 ?_,aa,(b2.ext F).gr ay,Nat.le_trans ao (nL F.size a1.size)⟩ om;intro e;have h1:=be b3 (ai b3 e.symm);omega
  have bo:row[k].sign=0:=by simpa using h
  have dx:(dvR row dv)[k]?=row[k]?:=by rw[b7,ae,if_neg (by simp[bo])]
  rw[Jyt af y dx]at a9;refine ρ ?_;exact Jg (k+1) sO ⟨om,av.trans an,b6.ext an,a9.ext RtC.sta an,b2.ext an,Nat.le_trans ao an.size⟩ om
 have bu:k=row.length:=by have:=oF h;omega
 clear h Z;subst bu;rw[Jqq af]at a9;have c7:dvR row dv=pvr t r c:=by unfold pvr;rw[hrow,hdd]
 have c8:(pvr t r c).length=row.length:=by rw[<-c7];exact af
 rw[c7]at a9;have cp:=hT.ext av;have d7:GX 3 RtC (TN b (.slice R t.rows.length rc) vb) w5 (.slice O row.length row.length) (pvr t r c):=a9.gx RtC.sta om λk Z=>⟨by rw[<-hM];exact .inl Z,de k Z⟩;clear a9 b2 b6 ao;refine ρ ?_;refine ld (cp.blk.at (i:=2) rfl) ?_;have d2:pvr t r c∈(t.pivot r c).rows:=by rw[<-Jht t a5];exact List.mem_set (by rw[Ym];exact a5) _
 have c3:∀ q∈pvr t r c,Sl q:=hs'.row _ d2;have J:∀ i (hi:i<t.rows.length),t.rows[i].length=row.length:=λi hi=>by
  have:=(hp.row i (by rw[<-hp.rows];exact hi)).1;rw[List.getD,List.getElem?_eq_getElem hi,bq]at this;rw[ax];exact this
 refine ρ ?_;refine Jl (fun (k:Nat)=>[(0,.pointer (some ⟨b,0,none⟩)),(1,.int .i64 (r:Int)),(2,.int .i64 (c:Int)),(6,.slice O row.length row.length),(60,.int .i64 (t.rows.length:Int)),(61,.int .i64 (k:Int))])
  (λk w'=>k<=t.rows.length/\TbV w' base b (.slice R t.rows.length rc) vg vb ⟨t.n,t.m,mix (Uy t r c) t.rows k,t.goal,t.basis⟩/\GX 3 RtC (TN b (.slice R t.rows.length rc) vb) w' (.slice O row.length row.length) (pvr t r c)/\GrN (TN b (.slice R t.rows.length rc) vb) w w') (λk=>t.rows.length-k) 0 sB
  ⟨Nat.zero_le _,by rw[Gu];exact cp,d7,GrN.ext av⟩ ?_
 rintro k w6 ⟨Z,ar,bd,bv⟩;have br:(mix (Uy t r c) t.rows k).length=t.rows.length:=Uh (Ym t r c) Z;refine ρ ?_;refine ci (λh=>?_) (λh=>?_)
 .have y:k<t.rows.length:=by have:=oT h;omega
  clear h;have ae:t.rows[k]?=some t.rows[k]:=gE y;have ba:(Uy t r c)[k]?=some (if k=r then t.rows[k] else Xe t.rows[k] (pvr t r c) (t.rows[k].getD c pr0)):=by simp[Uy,ae]
  refine ρ ?_;refine ci (λh=>?_) (λh=>?_)
  .have bt:k≠r:=λe=>by subst e;simp at h
   rw[if_neg bt]at ba;have a8:Ext w6 w6.drew:=(Ext.refl w6).drew;have a2:=ar.ext a8;have au:=bd.ext RtC.sta (by decide) a8;obtain⟨R',cx,_,ev,_,a6,bn⟩:=id a2.rows.el;simp only[br]at ev a6 bn;injection ev with ev1 ev2 ev3
   subst ev1;obtain⟨ce,e4,⟨vk,rfl,c1⟩,da⟩:=bn k y;have e2:(mix (Uy t r c) t.rows k)[k]'(by omega)=t.rows[k]:=by
    have:=Jkb (Ym t r c) y;rw[List.getElem?_eq_getElem om,ae]at this;injection this
   rw[e2]at c1;obtain⟨K,kc,_,ek,ea,_,cv,_,dm⟩:=id c1.el;rw[J k y]at ek cv;subst ek;obtain⟨ce,e3,bh,bc⟩:=dm c (by rw[J k y];exact ah);have bg:t.rows[k][c]'(by rw[J k y];exact ah)=t.rows[k].getD c pr0:=by simp[List.getD,List.getElem?_eq_getElem (show c<t.rows[k].length by rw[J k y];exact ah)]
   rw[bg]at bh;have c4:Sl (t.rows[k].getD c pr0):=by rw[<-bg];exact hs.row _ (List.getElem_mem _) _ (List.getElem_mem _)
   obtain⟨E1,x1,E2,x2,rfl,d3⟩:=bh.sl;have bl:w6.drew.cell? (adr R k)=some (.slice K row.length kc):=by
    have:=da 0 _ rfl;rwa [Nat.mul_one,add_zero]at this
   refine ρ ?_;refine dr [(0,0),(0,1),(0,2),(0,3),(0,4),(0,5),(0,6),(0,7),(0,8),(0,9),(0,10),(0,11),(0,12),(0,13),(0,14),(0,15),(0,16),(0,17),(0,18),(0,19),(0,20),(0,21),(0,22),(1,23),(0,24),(2,25)] kr ?_;refine ρd ?_;refine dld (a2.blk.at (i:=2) rfl) ?_;refine ρd ?_;refine dld (a2.blk.at (i:=2) rfl) ?_;refine ρd ?_;refine dix k a6 y ?_;refine ρd ?_;refine dld bl ?_;refine ρd ?_;refine dld (a2.blk.at (i:=2) rfl) ?_;refine ρd ?_;refine dix k a6 y ?_;refine ρd ?_;refine dld bl ?_;refine ρd ?_;refine Qp 3 c cv ah ?_;refine ρd ?_;refine Qj (λj u hu=>bc j u hu) ?_;refine ρd ?_;refine dcl (Jrl c1 au d3 a2.lt (by rw[c8,J k y]) (by rw[J k y];omega) (by rw[J k y];omega) (hs.row _ (List.getElem_mem _)) c3 c4) ?_;rintro u w7 ⟨hU,a3⟩;refine⟨a3,?_⟩;have aq:=a2.ext a3;obtain⟨U,uc,_,rfl,_,_,_,_,_⟩:=id hU.el;refine ρd ?_;refine dix k (a6.ext a3) y ?_;refine ρd ?_;refine Jf ?_
   refine stX1 MxC.sta aq.rows br.symm (show k<_ by rw[br];exact y) (u:=.slice U _ uc) (a:=Xe t.rows[k] (pvr t r c) (t.rows[k].getD c pr0)) ⟨_,rfl,hU⟩ (λg hg=>.inr (.inl hg)) rfl ?_;intro w8 aa a1;rw[Ug (Ym t r c) y ba]at aa;have ap:=aq.rowsT aa a1;have a7:GrN (TN b (.slice R t.rows.length rc) vb) w7 w8:=GrN.by a1 λk Z=>.inr (.inl Z)
   refine ρ ?_;exact Jg (k+1) sO ⟨om,ap,(au.ext RtC.sta (by decide) a3).gr RtC.sta (by decide) a7,(bv.trans (GrN.ext (a8.trans a3))).trans a7⟩ om
  have bt:k=r:=by
   have:((k:Int) == (r:Int))=true:=by simpa using h
   have:=eq_of_beq this;omega
  rw[if_pos bt]at ba;rw[Jyt (Ym t r c) y (by rw[ba,ae])]at ar;refine ρ ?_;exact Jg (k+1) sO ⟨om,ar,bd,bv⟩ om
 have bu:k=t.rows.length:=by have:=oF h;omega
 clear h Z;subst bu;rw[Jqq (Ym t r c)]at ar;have a8:Ext w6 w6.drew:=(Ext.refl w6).drew;have a2:=ar.ext a8;have au:=bd.ext RtC.sta (by decide) a8;have bb:=hp.goal.1;rw[bq]at bb;obtain⟨G,gc,_,rfl,_,_,dq,_,dn⟩:=id a2.goal.el;have bw:c<t.goal.length:=om
 obtain⟨ce,e1,bm,cj⟩:=dn c bw;have bf:t.goal[c]=t.goal.getD c pr0:=by simp[List.getD,List.getElem?_eq_getElem bw]
 simp only[bf]at bm;have d1:Sl (t.goal.getD c pr0):=by rw[<-bf];exact hs.goal _ (List.getElem_mem _)
 obtain⟨E1,x1,E2,x2,rfl,d5⟩:=bm.sl;refine ρ ?_;refine drC 18 [0,1,5,6,10] [(0,2),(0,3),(0,4),(0,7),(0,8),(0,9),(0,11),(0,12),(1,13),(0,14),(0,15),(2,16)] kr ?_;refine ρp ?_;refine ρd ?_;refine dld (a2.blk.at (i:=3) rfl) ?_;refine ρd ?_;refine dld (a2.blk.at (i:=3) rfl) ?_;refine ρd ?_;refine Qp 3 c dq bw ?_;refine ρd ?_;refine Qj (λj u hu=>cj j u hu) ?_;refine ρd ?_;refine dcl (Jrl a2.goal au d5 a2.lt (by rw[c8,bb,ax]) (by rw[bb];omega) (by rw[bb];omega) hs.goal c3 d1) ?_;rintro u w7 ⟨hU,a3⟩;refine⟨a3,?_⟩;have aq:=a2.ext a3;obtain⟨U,uc,_,rfl,_,_,_,_,_⟩:=id hU.el;refine ρd ?_;refine Jf ?_;refine stF (i:=3) aq.blk rfl ?_;intro w8 cw a1;have a7:GrN (TN b (.slice R t.rows.length rc) vb) w7 w8:=GrN.by a1 λk Z=>by injection Z with Z;exact .inl Z.symm
 have ap:=aq.goalT (vg':=.slice U _ uc) (goal':=Xe t.goal (pvr t r c) (t.goal.getD c pr0)) cw (hU.gr RtC.sta (by decide) a7) a1;have dh:=(au.ext RtC.sta (by decide) a3).gr RtC.sta (by decide) a7;have cb:=(bv.trans (GrN.ext (a8.trans a3))).trans a7;clear aq a2 ar au bd cw;obtain⟨R',cx,_,ev,_,a6,_⟩:=id ap.rows.el;simp only[Ym]at ev a6;injection ev with ev1 ev2 ev3
 subst ev1;refine ρ ?_;refine ld (ap.blk.at (i:=2) rfl) ?_;refine ρ ?_;refine ix r a6 a5 ?_;refine ρ ?_;refine stX1 MxC.sta ap.rows (Ym t r c).symm (show r<_ by rw[Ym];exact a5) (u:=.slice O row.length row.length) (a:=pvr t r c) ⟨_,rfl,dh⟩ (λg hg=>.inr (.inl hg)) rfl ?_;intro w9 cu ca;rw[Jht t a5]at cu;have b4:=ap.rowsT cu ca;have c9:=cb.trans (GrN.by ca λk Z=>.inr (.inl Z));obtain⟨S,sc,eS,e7,_⟩:=Jy b4.bas;subst eS;have cm:r<t.basis.length:=by rw[hp.basis];exact hr
 refine ρ ?_;refine ld (b4.blk.at (i:=4) rfl) ?_;refine ρ ?_;refine ix r (Rd.own b4.bas) cm ?_;refine ρ ?_;obtain⟨s1,s2,s3,s4,s5⟩:=Zl b4.bas (q:=r) (show r<t.basis.length*1 by omega) (.int .i64 (c:Int));refine sto (s1.trans (Qn cm)) s2 ?_;have cn:Qq (w9.setCell (adr S r) (.int .i64 (c:Int))) base (.slice S t.basis.length sc) (t.basis.set r c):=by
  rw[Qq,<-nzS,List.length_set];exact s3
 have cq:=b4.basT cn s5;refine ρ ?_;exact Ve ⟨rfl,_,cq,c9.trans (GrN.by s5 λk Z=>.inr (.inr Z))⟩
open Go.RowKit Pl Go.Wk
variable {cs:List Value}{b base c k n:Nat}{N:Nat->Prop}{p q qc qr:PR}{t:PT}{v vb vg vr:Value}{w:World}
def Vu: Option (Nat×PR)->Int
 | none=>-1
 | some p=>(p.1:Int)
theorem div_le'(hp:p.den≠0)(hq:q.den≠0)(h0:q.norm.num≠0): (PR.div p q).num<=p.num*q.den/\(PR.div p q).den<=p.den*q.num/\(PR.div p q).den≠0:=by
 unfold PR.div;rw[if_neg h0];obtain⟨y,u⟩:=mul_le' (p:=p) (q:=⟨q.norm.neg,q.norm.den,q.norm.num⟩) hp h0;exact⟨nL y (Nat.mul_le_mul_left _ (Vs hq)),Nat.le_trans u (Nat.mul_le_mul_left _ (Gj q)),(PR.mul_val (a:=p) (b:=⟨q.norm.neg,q.norm.den,q.norm.num⟩) hp h0).2⟩
def lvT(t:PT)(k:Nat)(q:PR): Option (Nat×PR)->Bool
 | none=>true
 | some p=>decide (PR.cmp q p.2<0∨(PR.cmp q p.2=0/\t.basis.getD k 0<t.basis.getD p.1 0))
theorem Qdg(hc:(t.rows.getD k []).getD c pr0=qc)(hr:(t.rows.getD k []).getD t.right pr0=qr)(hs:¬ qc.sign<=0): lvS t c (k+1)=if lvT t k (PR.div qr qc) (lvS t c k)=true then some (k,PR.div qr qc) else lvS t c k:=by
 conv=>lhs;unfold lvS
 simp only[hc,hr];rw[if_neg hs];cases lvS t c k with
 | none=>simp[lvT]
 | some p=>
  simp only[lvT,decide_eq_true_eq]
theorem Qzq(h:0<q.sign): q.num≠0:=λe=>by unfold PR.sign at h;rw[if_pos e]at h;omega
theorem Jlw(h:q.num≠0): q.norm.num≠0:=by
 unfold PR.norm;split
 .exact h
 have u:=Nat.gcd_dvd_left q.num q.den;obtain⟨k,y⟩:=u;show q.num / Nat.gcd q.num q.den≠0;have D:0<Nat.gcd q.num q.den:=Nat.gcd_pos_of_pos_left _ om;intro e;have F:=Nat.div_eq_zero_iff.1 e;have:=Nat.le_of_dvd om (Nat.gcd_dvd_left q.num q.den);omega
theorem NatX.box{t:Nat}(h:NatX N w v n)(hB:Blk w b t cs)(hc:∀ u∈cs,∀ z,u≠.int .u32 z): NatX (λk=>N k∨k=b) w v n:=by
 refine⟨h.1,λh0 F m c e y=>?_⟩;rcases y with y|y
 .exact h.2 h0 F m c e y
 obtain⟨A,Z,D,_,_,O⟩:=h.1;rw[e]at D;injection D with D _ _
 subst D;have J:=O.cell (Xk (limbs_pos' h0));have U:adr (some F) 0=F:=by rw[adr,add_zero];rfl
 rw[U]at J;obtain⟨bb,off,G⟩:=F;simp only at y;subst y;unfold Blk at hB;simp[World.cell?,hB]at J;grind
theorem RtX.bx{t:Nat}(h:RtX N w v q)(hB:Blk w b t cs)(hc:∀ u∈cs,∀ z,u≠.int .u32 z): RtX (λk=>N k∨k=b) w v q:=by
 obtain⟨x,y,e,F,D⟩:=h;exact⟨x,y,e,F.box hB hc,D.box hB hc⟩
theorem no32{b:Bool}{A B:Option Addr}{m m' c':Nat}: ∀ u∈[Value.bool b,.slice A m c,.slice B m' c'],∀ z,u≠.int .u32 z:=λu y z e=>by
 simp only[List.mem_cons,List.not_mem_nil,or_false]at y;rcases y with rfl|rfl|rfl<;>cases e
def SF.dv(N:Nat->Prop)(q:PR): SF:=⟨λv w=>∃ x,v=.tuple #[x,.int .i64 0]/\RtX N w x q,λ⟨x,e,h⟩ hx=>⟨x,e,h.ext hx⟩⟩
def SF.rb(s:Nat): SF:=⟨λv w=>∃ b,v=.pointer (some ⟨b,0,none⟩)/\s<=b/\Blk w b 84 [.bool false,.slice none 0 0,.slice none 0 0],λ⟨b,e,h,hb⟩ hx=>⟨b,e,h,hb.ext hx⟩⟩
theorem Qfc(hT:TbV w base b vr vg vb t)(hp:POk t)(hs:TSl t)(hc:c<t.n+t.m)(hn:t.n<=100)(hm:t.m<=100):
  Ret Tryz.prog 129 [.pointer (some ⟨b,0,none⟩),.int .i64 (c:Int)] w λu w'=>u=.int .i64 (Vu (lvS t c t.m))/\Ext w w':=by
 have cw:=hT.lt;have cn:t.rows.length=t.m:=hp.rows;have F:∀ i (hi:i<t.rows.length),t.rows[i].length=t.n+t.m+2:=λi hi=>by
  have:=(hp.row i (by rw[<-hp.rows];exact hi)).1;rwa [List.getD,List.getElem?_eq_getElem hi]at this
 refine Jz Tryz.func129 Tryz.ntmps129 rfl kr rfl ?_;obtain⟨R,rc,_,rfl,cm,cd,cc⟩:=id hT.rows.el;refine ρ ?_;refine alc Zo ?_;intro w1 b6 b4 c5 bt;have cb:=hT.ext b4;refine ρ ?_;refine ld (cb.blk.at (i:=2) rfl) ?_;refine ρ ?_;refine Qd (fun (k:Nat) (ls:List Value)=>[(0,.pointer (some ⟨b,0,none⟩)),(1,.int .i64 (c:Int)),(5,.int .i64 (Vu (lvS t c k))),(6,.pointer (some ⟨b6,0,none⟩)),(15,.slice R t.rows.length rc),(16,.int .i64 (t.rows.length:Int)),(17,.int .i64 (k:Int))])
  (λk ls w'=>k<=t.m/\Ext w w'/\w1.heap.size<=w'.heap.size/\Blk w' b6 84 ls/\ls.length=3/\(∀ u∈ls,u.oneCell'=true)/\∀ p,lvS t c k=some p->RtC (Ol w1) w' ls p.2/\p.2.num<=86400/\p.2.den<=86400/\p.1<t.m) (λk _=>t.m-k) 0 [.bool false,.slice none 0 0,.slice none 0 0] sB ⟨Nat.zero_le _,b4,Nat.le_refl _,bt,rfl,Qz rfl rfl rfl,λp h=>by cases h⟩ ?_
 rintro k ls w2 ⟨hk,a8,ak,ax,b3,bb,hI⟩;have l6:=bt.lt;refine ρ ?_;refine ci (λh=>?_) (λh=>?_)
 .have a1:k<t.rows.length:=by have:=oT h;omega
  clear h;have ba:k<t.m:=om
  have bo:=cd.ext a8;obtain⟨ce,cq,⟨vk,rfl,cj⟩,c3⟩:=cc k a1;obtain⟨K,kc,_,rfl,cp,_,ch,_,bp⟩:=id cj.el;rw[F k a1]at *;have bh:w2.cell? (adr R k)=some (.slice K (t.n+t.m+2) kc):=by
   have:=Xz a8 (c3 0 _ rfl);rwa [Nat.mul_one,add_zero]at this
  have av:=ch.ext a8;obtain⟨ce,_,be,bg⟩:=bp c (by rw[F k a1];omega);obtain⟨cr,_,b7,c0⟩:=bp (t.n+t.m+1) (by rw[F k a1];omega);have ec:t.rows[k][c]'(by rw[F k a1];omega)=(t.rows.getD k []).getD c pr0:=by simp[List.getD,List.getElem?_eq_getElem a1,List.getElem?_eq_getElem (show c<t.rows[k].length by rw[F k a1];omega)]
  have er:t.rows[k][t.n+t.m+1]'(by rw[F k a1];omega)=(t.rows.getD k []).getD t.right pr0:=by simp[PT.right,List.getD,List.getElem?_eq_getElem a1,List.getElem?_eq_getElem (show t.n+t.m+1<t.rows[k].length by rw[F k a1];omega)]
  have ad:Sl ((t.rows.getD k []).getD c pr0):=by rw[<-ec];exact hs.row _ (List.getElem_mem _) _ (List.getElem_mem _)
  have aj:Sl ((t.rows.getD k []).getD t.right pr0):=by rw[<-er];exact hs.row _ (List.getElem_mem _) _ (List.getElem_mem _)
  rw[ec]at be;rw[er]at b7;generalize hqc:(t.rows.getD k []).getD c pr0=qc at *
  generalize hqr:(t.rows.getD k []).getD t.right pr0=qr at *
  obtain⟨E1,x1,E2,x2,rfl,bi⟩:=be.sl;obtain⟨F1,y1,F2,y2,rfl,c1⟩:=b7.sl;refine ρ ?_;refine ix k bo a1 ?_;refine ρ ?_;refine ld bh ?_;refine ρ ?_;refine ixq 3 c av om ?_;refine ρ ?_;refine lds (λj u hu=>Xz a8 (bg j u hu)) ?_;refine ρ ?_;refine cl (Uw (bi.ext a8) ad.len) ?_;rintro _ w3 ⟨rfl,Z⟩;have aq:=a8.trans Z;refine ρ ?_;refine ci (λh=>?_) (λh=>?_)
  .have ay:qc.sign<=0:=oT h;have e:lvS t c (k+1)=lvS t c k:=by
    conv=>lhs;unfold lvS
    simp only[hqc];rw[if_pos ay]
   refine ρ ?_;refine Qv (k+1) ls (by rw[e];exact sO) ⟨om,aq,Nat.le_trans ak Z.size,ax.ext Z,b3,bb,λp a2=>?_⟩ om;rw[e]at a2;obtain⟨h1,h2⟩:=hI p a2;exact⟨RtC.sta.gr h1 (GrN.ext Z),h2⟩
  have ay:¬ qc.sign<=0:=oF h;have a4:Ext w3 w3.drew:=(Ext.refl w3).drew;have a3:=aq.trans a4;have au:=av.ext (Z.trans a4);have b8:qc.norm.num≠0:=Jlw (Qzq om);have f1:=aj.n;have f2:=aj.d;have f3:=ad.n;have f4:=ad.d;have f5:qr.den*qc.num<=120*720:=Nat.mul_le_mul f2 f3;have f6:qr.num*qc.den<=720*120:=Nat.mul_le_mul f1 f4;obtain⟨g1,g2,g3⟩:=div_le' aj.d0 ad.d0 b8;have ca:=hT.ext a3;have b2:w1.heap.size<=w3.drew.heap.size:=nL ak (Z.trans a4).size;refine ρ ?_;refine drH (λi=>i == 14 || i == 15) ?_;refine Jjb (fuel':=10) 17 [(0,0),(0,1),(0,5),(0,6),(0,7),(0,8)] #[true,true,false,false,false,true,true,true,true,false,false,false,false,false,false,false] kr kr rfl ?_;refine ρd ?_;refine Qp 3 c au om ?_;refine ρd ?_;refine Qj (λj u hu=>Xz a3 (bg j u hu)) ?_;refine ρd ?_;refine Jjc ?_;refine hcut 1 (lst 16 15) (fun (y:Nat×List Value)=>[(40,.int .i64 0),(9,.pointer (some ⟨y.1,0,none⟩)),(0,.pointer (some ⟨b,0,none⟩)),(1,.int .i64 (c:Int)),(5,.int .i64 (Vu (lvS t c k))),(6,.pointer (some ⟨b6,0,none⟩)),(7,.int .i64 (k:Int)),(15,.slice R t.rows.length rc),(16,.int .i64 (t.rows.length:Int)),(17,.int .i64 (k:Int))])
   (λy W=>Ext w3.drew W/\w3.drew.heap.size<=y.1/\Blk W y.1 84 y.2/\y.2.length=3/\RtC (λk=>Ol w1 k∨k=y.1) W y.2 (PR.div qr qc)) ?_ ?_
  rotate_left
  .intro rest;have bu:∀ {v4:World} {x:Value} {b9:Nat},Ext w3.drew v4->RtX (Ol w1) v4 x (PR.div qr qc)->w3.drew.heap.size<=b9->Blk v4 b9 84 [.bool false,.slice none 0 0,.slice none 0 0]->∃ cs:List Value,x=.agg cs.toArray/\cs.length=3/\(∀ u∈cs,u.oneCell'=true)/\∀ {v5:World},Blk v5 b9 84 cs->v4.grownBy v5 (some b9)->RtC (λk=>Ol w1 k∨k=b9) v5 cs (PR.div qr qc):=fun {v4 x b9} hx hX hb hB=>by
    obtain⟨A',c',B',d',rfl,c7,c6⟩:=(hX.bx hB no32).sl;refine⟨_,rfl,rfl,Qz rfl rfl rfl,fun {v5} hB5 hg=>?_⟩;have bd:GrN (λk=>Ol w1 k∨k=b9) v4 v5:=GrN.by hg λk ek=>by injection ek with ek;exact .inr ek.symm
    exact⟨_,_,rfl,c7.gr bd,c6.gr bd⟩
   refine hmkSq 17 12 2 _ #[true,true,true,true,true,true,true,true,true,true,true,true,true,true,false,false] [2,3,4,9,10,11,12,13] [31,32,33,38,28,39,40,9] [SF.eq (.int .i64 ((t.n+t.m+1:Nat):Int)),SF.eq (.pointer (some (adr K ((t.n+t.m+1)*3)))),SF.eq (.agg #[.bool qr.neg,.slice F1 (Jj qr.num).length y1,.slice F2 (Jj qr.den).length y2]),SF.dv (Ol w1) (PR.div qr qc),SF.dv (Ol w1) (PR.div qr qc),SF.rx (Ol w1) (PR.div qr qc),SF.eq (.int .i64 0),SF.rb w3.drew.heap.size] kr (by rfl) ?_ ?_ ?_
   .refine gsc (λvs v1 D hd=>?_) ?_
    .simp only[slM];refine cl (Gl (ca.ext D).blk rfl rfl om om) ?_;rintro _ v2 ⟨rfl,O⟩;exact Qk (Vx O rfl)
    refine gsc (λvs v1 D hd=>?_) ?_
    .have e0:vs 0=_:=hd 0;simp only[slM,e0];refine ixq 3 (t.n+t.m+1) (au.ext D) om ?_;exact Qk (Vx (Ext.refl _) rfl)
    refine gsc (λvs v1 D hd=>?_) ?_
    .have e0:vs 1=_:=hd 1;simp only[slM,e0];refine lds (λj u hu=>Xz (a3.trans D) (c0 j u hu)) ?_;exact Qk (Vx (Ext.refl _) rfl)
    refine gsc (λvs v1 D hd=>?_) ?_
    .have e0:vs 2=_:=hd 2;simp only[slM,e0];refine cl (Jhr (c1.ext (a3.trans D)) (bi.ext (a3.trans D)) b8 aj.d0 ad.d0 om om om om om) ?_;rintro _ v2 ⟨⟨x,rfl,hX⟩,O⟩;exact Qk (Vx O ⟨x,rfl,hX.old λj hj=>.inl (nM hj (nL b2 D.size))⟩)
    refine gsc (λvs v1 D hd=>?_) ?_
    .obtain⟨x,e0,hX⟩:=hd 3;simp only[slM,e0];refine ρ ?_;exact Vx (Ext.refl _) ⟨x,rfl,hX⟩
    refine gsc (λvs v1 D hd=>?_) ?_
    .obtain⟨x,e0,hX⟩:=hd 4;simp only[slM,e0];refine ρ ?_;exact Vx (Ext.refl _) hX
    refine gsc (λvs v1 D hd=>?_) ?_
    .obtain⟨x,e0,hX⟩:=hd 4;simp only[slM,e0];refine ρ ?_;exact Vx (Ext.refl _) rfl
    refine gsc (λvs v1 D hd=>?_) gse
    simp only[slM];refine alc Zo ?_;intro v2 b9 O G J;exact Qk (Vx O ⟨b9,rfl,Nat.le_trans D.size G,J⟩)
   .intro vs v1 D hd;obtain⟨b9,e7,G,J⟩:=hd 7;have hX:RtX (Ol w1) v1 (vs 5) (PR.div qr qc):=hd 5;have e6:vs 6=_:=hd 6;obtain⟨cs,e5,hl,h1,aa⟩:=bu D hX G J;simp only[slM,e7,e5,e6];refine Zn 14 kr rfl rfl ?_;refine stb J ?_ h1 (by simp[hl]) rfl rfl (by rw[hl]);intro v2 a7 ae O;refine Qk (Qe (λh=>by cases h) ?_);refine hlist (listed':=lst 16 15) kr ?_;exact rest (b9,cs) _ _ ⟨O _ D G,G,a7,hl,aa a7 ae⟩ sB
   intro _ vs v1 D hd;obtain⟨b9,e7,G,J⟩:=hd 7;have hX:RtX (Ol w1) v1 (vs 5) (PR.div qr qc):=hd 5;obtain⟨x4,e4,cv⟩:=hd 4;obtain⟨cs,e5,hl,h1,aa⟩:=bu D hX G J;simp only[slM,e7,e5,e4];refine Jqt 12 14 kr rfl rfl rfl ?_ ?_
   .refine ρ ?_;refine Qe (λ_=>Ext.refl _) ?_;refine Zn 14 kr rfl rfl ?_;refine stb J ?_ h1 (by simp[hl]) rfl rfl (by rw[hl]);intro v2 a7 ae O;refine Qk (Qe (λh=>by cases h) ?_);refine hlist (listed':=lst 16 15) kr ?_;exact rest (b9,cs) _ _ ⟨O _ D G,G,a7,hl,aa a7 ae⟩ sB
   refine stb J ?_ h1 (by simp[hl]) rfl rfl (by rw[hl]);intro v2 a7 ae O;refine Qk (Qe (λh=>by cases h) ?_);refine Zn 12 kr rfl rfl ?_;refine ρ ?_;refine Qe (λ_=>Ext.refl _) ?_;refine hlist (listed':=lst 16 15) kr ?_;exact rest (b9,cs) _ _ ⟨O _ D G,G,a7,hl,aa a7 ae⟩ sB
  rintro⟨b9,cs⟩ w4 ⟨a5,G,J,bf,bq⟩;simp only at G J bf bq;refine Zn 15 kr rfl rfl ?_;refine ρ ?_;refine Qe (λ_=>Ext.refl _) ?_;refine Zx kr ?_;have af:Blk w4 b6 _ ls:=ax.ext ((Z.trans a4).trans a5);have ap:=a3.trans a5;have c8:=hT.ext ap;obtain⟨A9,c9,D9,d9,rfl,bn⟩:=bq.sl;have co:b6<w4.heap.size:=af.lt;refine ρ ?_;refine Xg (fun (o:Int)=>[(11,.int .i64 o),(9,.pointer (some ⟨b9,0,none⟩)),(0,.pointer (some ⟨b,0,none⟩)),(1,.int .i64 (c:Int)),(5,.int .i64 (Vu (lvS t c k))),(6,.pointer (some ⟨b6,0,none⟩)),(7,.int .i64 (k:Int)),(15,.slice R t.rows.length rc),(16,.int .i64 (t.rows.length:Int)),(17,.int .i64 (k:Int))])
   (λo W=>Ext w4 W/\o=match lvS t c k with|none=>-1|some p=>PR.cmp (PR.div qr qc) p.2) ?_ ?_
  .refine ci (λh=>?_) (λh=>?_)
   .have h1:0<=Vu (lvS t c k):=oT h;obtain⟨p,a6⟩:∃ p,lvS t c k=some p:=by
     cases e:lvS t c k with
     | none=>rw[e]at h1;simp[Vu]at h1
     | some p=>exact⟨p,rfl⟩
    obtain⟨i1,i2,i3,i4⟩:=hI p a6;obtain⟨P1,p1,P2,p2,rfl,cg⟩:=i1.sl;refine ρ ?_;refine ldW J ?_;refine ρ ?_;refine ldW af ?_;refine ρ ?_;refine cl (Qwz bn (cg.ext ((Z.trans a4).trans a5)) (λj hj=>?_) (λj hj=>nM hj (nL b2 a5.size)) om om om om) ?_
    .rcases hj with hj|hj
     .exact nM hj (nL b2 a5.size)
     rw[hj];exact J.lt
    rintro _ w5 ⟨rfl,ai⟩;refine ρ ?_;exact Js _ sB ⟨ai,by rw[a6]⟩
   have h1:¬ 0<=Vu (lvS t c k):=oF h;have e:lvS t c k=none:=by
    cases e:lvS t c k with
    | none=>rfl
    | some p=>rw[e]at h1;simp[Vu]at h1
   refine ρ ?_;exact Js _ sB ⟨Ext.refl _,by rw[e]⟩
  rintro o w5 ⟨ai,ho⟩;have ah:Ext w5 w5.drew:=(Ext.refl w5).drew;have am:=c8.ext (ai.trans ah);obtain⟨S,sc,eS,ck,_⟩:=Jy am.bas;have an:=Rd.own (show w5.drew.ownsRow base 3 1 (.slice S t.basis.length sc) t.basis.length (Jp (nz t.basis)) by rw[<-eS];exact am.bas);have cu:t.basis.length=t.m:=hp.basis;subst eS;refine ρ ?_;refine Xg (fun (tk:Bool)=>[(68,.bool tk),(9,.pointer (some ⟨b9,0,none⟩)),(0,.pointer (some ⟨b,0,none⟩)),(1,.int .i64 (c:Int)),(5,.int .i64 (Vu (lvS t c k))),(6,.pointer (some ⟨b6,0,none⟩)),(7,.int .i64 (k:Int)),(15,.slice R t.rows.length rc),(16,.int .i64 (t.rows.length:Int)),(17,.int .i64 (k:Int))])
   (λtk W=>Ext w5 W/\tk=lvT t k (PR.div qr qc) (lvS t c k)) ?_ ?_
  .refine dr [(0,0),(0,1),(0,2),(0,3),(0,4),(0,5),(0,6),(0,7),(0,8),(0,9),(0,10),(0,11),(0,12),(0,13),(0,14),(0,15),(0,16),(0,17),(0,18),(0,19),(0,20),(0,21),(0,22)] kr ?_;refine ρd ?_;refine dki 48 (λh=>?_) (λh=>?_)
   .have h1:o<0:=oT h;refine ρd ?_;refine Js true sB ⟨ah,?_⟩;cases e:lvS t c k with
    | none=>rfl
    | some p=>rw[e]at ho;simp only at ho;simp[lvT];left;omega
   have h1:¬ o<0:=oF h;obtain⟨p,a6⟩:∃ p,lvS t c k=some p:=by
    cases e:lvS t c k with
    | none=>rw[e]at ho;simp only at ho;omega
    | some p=>exact⟨p,rfl⟩
   obtain⟨_,_,_,i4⟩:=hI p a6;rw[a6]at ho;simp only at ho;have c4:Vu (lvS t c k)=(p.1:Int):=by rw[a6];rfl
   refine ρd ?_;refine dki 51 (λh=>?_) (λh=>?_)
   .have h2:o=0:=by simpa using h
    refine ρd ?_;refine dld (am.blk.at (i:=4) rfl) ?_;refine ρd ?_;have bl:k<t.basis.length:=om
    have bj:p.1<t.basis.length:=om
    refine dix k an bl ?_;refine ρd ?_;refine dld (an.cell (Qn bl)) ?_;refine ρd ?_;refine dld (am.blk.at (i:=4) rfl) ?_;refine ρd ?_;refine dkv 63 (u:=.int .i64 (p.1:Int)) (congrArg (Value.int .i64) c4) ?_;refine dix p.1 an bj ?_;refine ρd ?_;refine dld (an.cell (Qn bj)) ?_;refine ρd ?_;refine Js (decide (((t.basis.getD k 0:Nat):Int)<((t.basis.getD p.1 0:Nat):Int))) sB ⟨ah,?_⟩;rw[a6];simp only[lvT];rw[decide_eq_decide];omega
   have h2:¬ o=0:=by simpa using h
   refine ρd ?_;refine Js false sB ⟨ah,?_⟩;rw[a6];simp only[lvT];symm
   rw[decide_eq_false_iff_not];omega
  rintro tk w6 ⟨bw,bz⟩;have a9:=Qdg hqc hqr ay;rw[<-bz]at a9;have U:=ai.trans bw;have ao:=ap.trans U;have aw:=af.ext U;have br:=J.ext U;have bm:=bn.ext U;refine ρ ?_;refine ci (λh=>?_) (λh=>?_)
  .rw[if_pos h]at a9;have ac:Ext w6 w6.drew:=(Ext.refl w6).drew;refine ρ ?_;refine dr [(0,0),(0,1),(0,2),(2,3)] kr ?_;refine ρd ?_;refine Qj (λj u hu=>(br.ext ac).at hu) ?_;refine ρd ?_;refine Jf ?_;refine stb (cs':=[.bool (PR.div qr qc).neg,.slice A9 _ c9,.slice D9 _ d9]) (aw.ext ac) ?_ (Qz rfl rfl rfl) (by rw[b3];rfl);intro w7 bs bc bv;have b5:Ext w w7:=bv w (ao.trans ac) c5;obtain⟨_,_,ee,e1,e2⟩:=(bm.ext ac);injection ee with ee
   injection ee with ee
   injection ee with _ ee
   injection ee with ea ee
   injection ee with eb _
   subst ea;subst eb;have ar:GrN (λk=>Ol w1 k∨k=b9) w6.drew w7:=GrN.by bc λj ej=>by injection ej with ej;subst ej;exact .inl l6
   refine ρ ?_;refine Qv (k+1) [.bool (PR.div qr qc).neg,.slice A9 _ c9,.slice D9 _ d9] (by rw[a9];exact sO) ⟨om,b5,Nat.le_trans ak (nL (Z.trans a4).size (nL a5.size (nL U.size (nL ac.size bc.size)))),bs,rfl,Qz rfl rfl rfl,λp a2=>?_⟩ om;rw[a9]at a2;injection a2 with a2
   subst a2;exact⟨RtC.sta.old ⟨_,_,rfl,e1.gr ar,e2.gr ar⟩ λj hj=>.inl (.inl hj),by show(PR.div qr qc).num<=_;omega,by show(PR.div qr qc).den<=_;omega,ba⟩
  rw[if_neg (by rw[h];decide)]at a9;refine ρ ?_;refine Qv (k+1) ls (by rw[a9];exact sO) ⟨om,ao,Nat.le_trans ak (nL (Z.trans a4).size (nL a5.size U.size)),aw,b3,bb,λp a2=>?_⟩ om;rw[a9]at a2;obtain⟨h1,h2⟩:=hI p a2;exact⟨RtC.sta.gr h1 (GrN.ext (((Z.trans a4).trans a5).trans U)),h2⟩
 have c2:k=t.m:=by have:=oF h;omega
 subst c2;refine ρ ?_;exact Jq ⟨rfl,a8⟩
end Go.Proofs.YtebiphhfkdbpfaaGreat
namespace Go.Wk
variable {al:AL}{Q:Exit->Act->World->Prop}{l n:Nat}{P:Program}{w:World}
theorem wlab(h:QX n Q .normal al w): WC P n (.label l) Q al w:=λa u=>wp_label (h a u)
theorem Qjg{c:Code}(h:WC P n c (Exit.noGoto Q) al w): WC P n (.scope c) Q al w:=λa u=>wp_scope_straight (h a u)
theorem xret(h:QX n Q .ret al w): QX n (Exit.noGoto Q) .ret al w:=h
end Go.Wk
namespace Go.Proofs.YtebiphhfkdbpfaaGreat
open Go.RowKit Pl Go.Wk Bl
attribute [local irreducible] WC WL QX WD WDB WP WN WG WH
variable {cols j m n:Nat}{t t':PT}{S T0:QT}
theorem Qgw(hj:j<cols)(h:(t.goal.getD j pr0).sign<0)(h0:∀ i,i<j->¬ (t.goal.getD i pr0).sign<0): t.enter cols=some j:=by
 unfold PT.enter;induction cols with
 | zero=>omega
 | succ n ih=>
  rw[List.range_succ,List.find?_append];rcases Nat.lt_or_ge j n with h1|h1
  .rw[ih h1];rfl
  have e:j=n:=om
  subst e;have:(List.range j).find? (λj=>decide ((t.goal.getD j pr0).sign<0))=none:=by
   rw[List.find?_eq_none];intro i hi;simpa using h0 i (List.mem_range.1 hi)
  rw[this];simp only[List.find?_cons,h,decide_true];rfl
theorem Qgx(h0:∀ i,i<cols->¬ (t.goal.getD i pr0).sign<0): t.enter cols=none:=by
 unfold PT.enter;rw[List.find?_eq_none];intro i hi;simpa using h0 i (List.mem_range.1 hi)
theorem Qqq{q:PR}(h:q.val≠0): q.num≠0:=λe=>h (by
 unfold PR.val;rw[e];have:((0:Nat):Rat)=0:=rfl;rw[this];split<;>grind)
theorem Qqt(h:PSt n m T0 t S)(h0:∀ i j,i<m->j<n+m->isI (T0.a i j) 1)(h1:∀ i,i<m->isI (T0.b i) 1)(h2:∀ j,j<n+m->isI (T0.g j) 1)(hz:T0.z=0)(hnm:0<n+m)(hm:m<=5): TSl t:=by
 obtain⟨hr,hg⟩:=h.small h0 h1 h2 hz hnm;have a2:fct (m+1)<=720:=nL (Jxb (show m+1<=6 by omega)) (by decide);have a1:fct m<=120:=nL (Jxb hm) (by decide);have hn:=h.en;have G:=h.em;have D:=h.agr.ok;refine⟨λl hl q F=>?_,λq F=>?_⟩
 .obtain⟨i,hi,rfl⟩:=List.getElem_of_mem hl;have O:i<m:=by rw[<-G,<-D.rows];exact hi
  obtain⟨y,Z⟩:=D.row i om;have e1:t.rows.getD i []=t.rows[i]:=by simp[List.getD,List.getElem?_eq_getElem hi]
  obtain⟨j,J,rfl⟩:=List.getElem_of_mem F;have e2:t.rows[i].getD j pr0=t.rows[i][j]:=by simp[List.getD,List.getElem?_eq_getElem J]
  have U:=hr i j O (by rw[e1]at y;rw[PT.right]at y;omega);have u:=Z j (by rw[e1]at y;omega);rw[e1,e2]at U u;exact⟨u,om,om⟩
 obtain⟨y,Z⟩:=D.goal;obtain⟨j,J,rfl⟩:=List.getElem_of_mem F;have e2:t.goal.getD j pr0=t.goal[j]:=by simp[List.getD,List.getElem?_eq_getElem J]
 have U:=hg j (by rw[PT.right]at y;omega);have u:=Z j om;rw[e2]at U u;exact⟨u,om,om⟩
theorem Qcr{w:World}{base b fuel:Nat}{vr vg vb:Value}(hT:TbV w base b vr vg vb t)(hst:PSt n m T0 t S)(hsl:∀ t S,PSt n m T0 t S->TSl t)(hB:Bnd m (n+m) T0)(hmx:PT.maxim (n+m) fuel t=some t')(hn:n<=100)(hm:m<=100)(hbase:base<=w.heap.size):
  Ret Tryz.prog 86 [.pointer (some ⟨b,0,none⟩),.int .i64 ((n+m:Nat):Int)] w λu w'=>u=.tuple #[.int .i64 0,.bool true]/\∃ vg',TbV w' base b vr vg' vb t'/\GrN (TN b vr vb) w w':=by
 refine Jz Tryz.func86 Tryz.ntmps86 rfl kr rfl ?_;refine ρ ?_;refine Qjg ?_;refine wseq ?_;refine wlab ?_;refine ρ ?_;refine Qd (fun (k:Nat) (t:PT)=>[(0,.pointer (some ⟨b,0,none⟩)),(1,.int .i64 ((n+m:Nat):Int))])
  (λk t w'=>PT.maxim (n+m) k t=some t'/\(∃ S,PSt n m T0 t S)/\(∃ vg',TbV w' base b vr vg' vb t)/\GrN (TN b vr vb) w w') (λk _=>k) fuel t ?_ ⟨hmx,⟨S,hst⟩,⟨vg,hT⟩,GrN.refl _ _⟩ ?_
 .exact sB
 rintro k t w1 ⟨hmx,⟨S,hst⟩,⟨vg,hT⟩,a2⟩;have hs:=hsl t S hst;have ok:=hst.agr.ok;have ao:=hst.en;have ap:=hst.em;obtain⟨k,rfl⟩:∃ j,k=j+1:=by
  cases k with
  | zero=>cases hmx
  | succ j=>exact⟨j,rfl⟩
 have an:t.goal.length=n+m+2:=by have:=ok.goal.1;rw[PT.right]at this;omega
 refine ρ ?_;refine Jl (fun (j:Nat)=>[(0,.pointer (some ⟨b,0,none⟩)),(1,.int .i64 ((n+m:Nat):Int)),(8,.int .i64 ((n+m:Nat):Int)),(9,.int .i64 (j:Int))])
  (λj w'=>j<=n+m/\Ext w1 w'/\∀ i,i<j->¬ (t.goal.getD i pr0).sign<0) (λj=>n+m-j) 0 sB ⟨Nat.zero_le _,Ext.refl _,λi hi=>absurd hi om⟩ ?_
 rintro j w2 ⟨hj,D,a1⟩;have J:=hT.ext D;refine ρ ?_;refine ci (λh=>?_) (λh=>?_)
 .have aa:j<n+m:=by have:=oT h;omega
  clear h;obtain⟨G,gc,_,rfl,_,_,ak,_,aj⟩:=id J.goal.el;obtain⟨ce,_,a6,af⟩:=aj j om;have e1:t.goal[j]'(by omega)=t.goal.getD j pr0:=by simp[List.getD,List.getElem?_eq_getElem (show j<t.goal.length by omega)]
  have a9:Sl (t.goal.getD j pr0):=by rw[<-e1];exact hs.goal _ (List.getElem_mem _)
  simp only[e1]at a6;obtain⟨E1,x1,E2,x2,rfl,ah⟩:=a6.sl;refine ρ ?_;refine ld (J.blk.at (i:=3) rfl) ?_;refine ρ ?_;refine ixq 3 j ak om ?_;refine ρ ?_;refine lds (λi u hu=>af i u hu) ?_;refine ρ ?_;refine cl (Uw ah a9.len) ?_;rintro _ w3 ⟨rfl,F⟩;have a8:=J.ext F;refine ρ ?_;refine ci (λh=>?_) (λh=>?_)
  .have ad:¬ (t.goal.getD j pr0).sign<0:=by have:=oT h;omega
   refine ρ ?_;exact Jg (j+1) sO ⟨om,D.trans F,λi hi=>by
    rcases Nat.lt_or_ge i j with h1|h1
    .exact a1 i h1
    have:i=j:=om
    subst this;exact ad⟩ om
  have a3:(t.goal.getD j pr0).sign<0:=by have:=oF h;omega
  have U:=Qgw aa a3 a1;obtain⟨_,r,y,am,a7,O⟩:=hst.next hB U;have a5:Vu (lvS t j t.m)=(r:Int):=by
   unfold PT.leaving at y;rw[ok.rows]at y;cases e:lvS t j t.m with
   | none=>rw[e]at y;cases y
   | some p=>rw[e]at y;simp only[Option.map_some,Option.some.injEq]at y;simp[Vu,y]
  have a4:PT.maxim (n+m) k (t.pivot r j)=some t':=by
   rw[PT.maxim,U]at hmx;simp only[y]at hmx;exact hmx
  refine ρ ?_;refine cl (Qfc (c:=j) a8 ok hs om om om) ?_;rintro _ w4 ⟨rfl,Z⟩;rw[a5];refine ρ ?_;refine cl (Qvz (r:=r) (c:=j) (a8.ext Z) ok hs (hsl _ _ O) om om (Jlw (Qqq ?_)) om om (nL hbase (nL a2.size ((D.trans F).trans Z).size))) ?_
  .rw[hst.agr.a r j om om];have:=a7.pos;intro e;rw[e]at this;exact absurd this (by decide)
  rintro _ w5 ⟨rfl,vg',ai,ae⟩;refine ρ ?_;exact Qv k (t.pivot r j) sB ⟨a4,⟨_,O⟩,⟨vg',ai⟩,(a2.trans (GrN.ext ((D.trans F).trans Z))).trans ae⟩ om
 have ac:j=n+m:=by have:=oF h;omega
 subst ac;rw[PT.maxim,Qgx a1]at hmx;injection hmx with hmx
 subst hmx;refine ρ ?_;refine xret ?_;exact Xx ⟨rfl,vg,J,a2.trans (GrN.ext D)⟩
end Go.Proofs.YtebiphhfkdbpfaaGreat
