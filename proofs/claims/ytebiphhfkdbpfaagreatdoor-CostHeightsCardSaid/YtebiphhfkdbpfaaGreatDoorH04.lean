/- Part 4. -/
import Derived.Test.YtebiphhfkdbpfaaGreatDoorH03
set_option linter.unusedVariables false
set_option maxRecDepth 100000
set_option maxHeartbeats 40000000
namespace Go.Proofs.YtebiphhfkdbpfaaGreatDoor.Bl
variable {K c i j k n p q s:Nat}{f g:Nat->Rat}{a b:Rat}
def Jw: Nat->(Nat->Rat)->Rat
 | 0,_=>0
 | n+1,f=>Jw n f+f n
theorem Ub(h:∀ j,j<n->f j=g j): Jw n f=Jw n g:=by
 induction n with
 | zero=>rfl
 | succ n ih=>rw[Jw,Jw,ih λj i=>h j om,h n om]
theorem Jjd(n:Nat)(f g:Nat->Rat)(k:Rat): Jw n (λj=>f j-k*g j)=Jw n f-k*Jw n g:=by
 induction n with
 | zero=>grind [Jw]
 | succ n ih=>grind [Jw]
theorem Gv(n:Nat)(f:Nat->Rat)(k:Rat): Jw n (λj=>k*f j)=k*Jw n f:=by
 induction n with
 | zero=>grind [Jw]
 | succ n ih=>grind [Jw]
theorem Jwc(n:Nat)(f g:Nat->Rat): Jw n (λj=>f j+g j)=Jw n f+Jw n g:=by
 induction n with
 | zero=>grind [Jw]
 | succ n ih=>grind [Jw]
theorem Jjc(h:∀ j,j<n->f j=0): Jw n f=0:=by
 induction n with
 | zero=>rfl
 | succ n ih=>rw[Jw,ih λj i=>h j om,h n om];grind
theorem Uy(hc:c<n)(h:∀ j,j<n->j≠c->f j=0): Jw n f=f c:=by
 induction n with
 | zero=>omega
 | succ n ih=>
  rw[Jw];by_cases e:c=n
  .subst e;rw[Jjc λj u=>h j om om];grind
  rw[ih om λj u i=>h j om i,h n om om];grind
theorem Jtf(h:0<Jw n f): ∃ j,j<n/\0<f j:=by
 induction n with
 | zero=>simp[Jw]at h
 | succ n ih=>
  rw[Jw]at h;by_cases e:0<f n
  .exact⟨n,om,e⟩
  obtain⟨j,u,i⟩:=ih (by grind);exact⟨j,om,i⟩
theorem Jtd(n m:Nat)(f:Nat->Nat->Rat): Jw n (λj=>Jw m λi=>f i j)=Jw m λi=>Jw n λj=>f i j:=by
 induction n with
 | zero=>simp only[Jw];exact(Jjc λ_ _=>rfl).symm
 | succ n ih=>simp only[Jw];rw[ih,<-Jwc]
structure QT where
 a: Nat->Nat->Rat
 b:Nat->Rat
 g:Nat->Rat
 z:Rat
 β:Nat->Nat
def QT.pivot(t:QT)(r c:Nat): QT :=
 ⟨λi j=>if i=r then t.a r j / t.a r c else t.a i j-t.a i c*(t.a r j / t.a r c),λi=>if i=r then t.b r / t.a r c else t.b i-t.a i c*(t.b r / t.a r c),λj=>t.g j-t.g c*(t.a r j / t.a r c),t.z-t.g c*(t.b r / t.a r c),λi=>if i=r then c else t.β i⟩
def Sol(m n:Nat)(t:QT)(x:Nat->Rat): Prop:=∀ i,i<m->Jw n (λj=>t.a i j*x j)=t.b i
def QT.val(n:Nat)(t:QT)(x:Nat->Rat): Rat:=t.z-Jw n λj=>t.g j*x j
structure WF(m n:Nat)(t:QT): Prop where
 lt:∀ i,i<m->t.β i<n
 unit:∀ i k,i<m->k<m->t.a k (t.β i)=if k=i then 1 else 0
 red:∀ i,i<m->t.g (t.β i)=0
variable {m n r c:Nat} {t:QT} {x:Nat->Rat}
theorem Jwt(hp:t.a r c≠0): Jw n (λj=>t.a r j / t.a r c*x j)=Jw n (λj=>t.a r j*x j) / t.a r c:=by
 rw[show(λj=>t.a r j / t.a r c*x j)=λj=>(1 / t.a r c)*(t.a r j*x j) by funext j;grind,Gv];grind
theorem Jtv(hr:r<m)(hp:t.a r c≠0)(h:Sol m n t x): Sol m n (t.pivot r c) x:=λi hi=>by
 have h0:=h r hr;have u:=Jwt (n:=n) (x:=x) hp;by_cases e:i=r
 .subst e;simp only[QT.pivot,if_true];rw[u,h0]
 simp only[QT.pivot,if_neg e];rw[show(λj=>(t.a i j-t.a i c*(t.a r j / t.a r c))*x j)=λj=>t.a i j*x j-t.a i c*(t.a r j / t.a r c*x j) by funext j;grind,Jjd,u,h0,h i hi]
theorem Jdp(hr:r<m)(hp:t.a r c≠0)(h:Sol m n (t.pivot r c) x): Sol m n t x:=by
 have h0:=h r hr;have u:=Jwt (n:=n) (x:=x) hp;simp only[QT.pivot,if_true]at h0;rw[u]at h0;have B:Jw n (λj=>t.a r j*x j)=t.b r:=by grind
 intro i hi;by_cases e:i=r
 .subst e;exact B
 have y:=h i hi;simp only[QT.pivot,if_neg e]at y;rw[show(λj=>(t.a i j-t.a i c*(t.a r j / t.a r c))*x j)=λj=>t.a i j*x j-t.a i c*(t.a r j / t.a r c*x j) by funext j;grind,Jjd,u,B]at y;grind
theorem Jcx(hr:r<m)(hp:t.a r c≠0)(h:Sol m n t x): (t.pivot r c).val n x=t.val n x:=by
 have h0:=h r hr;have i:=Jwt (n:=n) (x:=x) hp;simp only[QT.val,QT.pivot];rw[show(λj=>(t.g j-t.g c*(t.a r j / t.a r c))*x j)=λj=>t.g j*x j-t.g c*(t.a r j / t.a r c*x j) by funext j;grind,Jjd,i,h0];grind
theorem WF.inj(h:WF m n t)(hi:i<m)(hk:k<m)(e:t.β i=t.β k): i=k:=by
 have u:=h.unit i i hi hi;have j:=h.unit k i hk hi;rw[<-e,u]at j;by_cases e2:i=k
 .exact e2
 rw[if_neg e2]at j;simp at j
theorem Jcq(h:WF m n t)(hr:r<m)(hc:c<n)(hp:t.a r c≠0): WF m n (t.pivot r c):=by
 refine⟨λi hi=>?_,λi k hi y=>?_,λi hi=>?_⟩
 .simp only[QT.pivot];split
  .exact hc
  exact h.lt i hi
 .have u:=h.unit i k hi y;have j:=h.unit i r hi hr;simp only[QT.pivot];by_cases e:i=r
  .subst e;simp only[if_true];by_cases e2:k=i
   .subst e2;simp only[if_true];grind
   simp only[if_neg e2];grind
  simp only[if_neg e];rw[if_neg (λh=>e h.symm)]at j;by_cases e2:k=r
  .subst e2;rw[if_neg (λh=>e h.symm)]at u;simp only[if_true];rw[u,if_neg (λh=>e h.symm)];grind
  simp only[if_neg e2];rw[j,u];grind
 simp only[QT.pivot];by_cases e:i=r
 .subst e;simp only[if_true];grind
 simp only[if_neg e];have j:=h.unit i r hi hr;rw[if_neg (λh=>e h.symm)]at j;rw[j,h.red i hi];grind
def QT.pt(m:Nat)(t:QT)(s:Nat)(l:Rat): Nat->Rat:=λj=>(if j=s then l else 0)+Jw m λi=>if t.β i=j then t.b i-t.a i s*l else 0
theorem Gf(hw:WF m n t)(hs:s<n)(l:Rat)(h:Nat->Rat): Jw n (λj=>h j*t.pt m s l j)=h s*l+Jw m λi=>h (t.β i)*(t.b i-t.a i s*l):=by
 have e:(λj=>h j*t.pt m s l j)=λj=>(h j*(if j=s then l else 0))+Jw m λi=>h j*(if t.β i=j then t.b i-t.a i s*l else 0):=by
  funext j;rw[Gv];simp only[QT.pt];grind
 rw[e,Jwc,Jtd];congr 1
 .rw[Uy hs λj _ u=>by rw[if_neg u];grind,if_pos rfl]
 refine Ub λi hi=>?_;rw[Uy (hw.lt i hi) λj _ u=>by rw[if_neg (λh=>u h.symm)];grind,if_pos rfl]
theorem Ul(hw:WF m n t)(hs:s<n)(l:Rat): Sol m n t (t.pt m s l):=λk u=>by
 rw[Gf hw hs l (λj=>t.a k j),Ub (g:=λi=>if i=k then t.b k-t.a k s*l else 0),Uy u λj _ y=>if_neg y,if_pos rfl]
 .grind
 intro i hi;rw[hw.unit i k hi u];by_cases e:k=i
 .subst e;simp only[if_true];grind
 rw[if_neg e,if_neg (λh=>e h.symm)];grind
theorem Jxm(hw:WF m n t)(hs:s<n)(l:Rat): t.val n (t.pt m s l)=t.z-t.g s*l:=by
 unfold QT.val;rw[Gf hw hs l t.g,Jjc (f:=λi=>t.g (t.β i)*(t.b i-t.a i s*l)) λi hi=>by rw[hw.red i hi];grind];grind
structure Eqv(m n:Nat)(t u:QT): Prop where
 sol:∀ x,Sol m n t x->Sol m n u x
 val:∀ x,Sol m n t x->t.val n x=u.val n x
theorem Eqv.refl(t:QT): Eqv m n t t:=⟨λx h=>h,λx h=>rfl⟩
theorem Eqv.trans{u v:QT}(h:Eqv m n t u)(k:Eqv m n u v): Eqv m n t v:=⟨λx i=>k.sol x (h.sol x i),λx i=>(h.val x i).trans (k.val x (h.sol x i))⟩
theorem Jmm(hr:r<m)(hp:t.a r c≠0): Eqv m n t (t.pivot r c):=⟨λx h=>Jtv hr hp h,λx h=>(Jcx hr hp h).symm⟩
theorem Jmn(hr:r<m)(hp:t.a r c≠0): Eqv m n (t.pivot r c) t:=⟨λx h=>Jdp hr hp h,λx h=>Jcx hr hp (Jdp hr hp h)⟩
theorem Jww{u:QT}(hw:WF m n t)(he:Eqv m n t u)(hs:s<n): t.g s=u.g s-Jw m λi=>u.g (t.β i)*t.a i s:=by
 have h0:=he.val _ (Ul hw hs 0);have j:=he.val _ (Ul hw hs 1);rw[Jxm hw hs]at h0 j;unfold QT.val at h0 j;rw[Gf hw hs _ u.g]at h0 j;have e:Jw m (λi=>u.g (t.β i)*(t.b i-t.a i s*1))=Jw m (λi=>u.g (t.β i)*(t.b i-t.a i s*0))-1*Jw m (λi=>u.g (t.β i)*t.a i s):=by
  rw[<-Jjd];congr 1;funext i;grind
 rw[e]at j;grind
structure Bst(m n:Nat)(t:QT)(r c:Nat): Prop where
 rm:r<m
 cn:c<n
 ent:t.g c<0
 first:∀ j,j<c->0<=t.g j
 pos:0<t.a r c
 ratio:∀ i,i<m->0<t.a i c->t.b r / t.a r c<=t.b i / t.a i c/\(t.b i / t.a i c=t.b r / t.a r c->t.β r<=t.β i)
def Kq(m:Nat)(t:QT): Prop:=∀ i,i<m->0<=t.b i
theorem Jms(ha:0<=a)(hb:0<b): 0<=a / b:=by
 rw[Rat.div_def];exact Rat.mul_nonneg ha (Rat.le_of_lt (Rat.inv_pos.2 hb))
theorem Jmj(h:Bst m n t r c)(hf:Kq m t): Kq m (t.pivot r c):=λi hi=>by
 have j:=Jms (hf r h.rm) h.pos;simp only[QT.pivot];by_cases e:i=r
 .rw[if_pos e];exact j
 rw[if_neg e];by_cases hp:0<t.a i c
 .have u:=(h.ratio i hi hp).1;have y:t.a i c*(t.b r / t.a r c)<=t.a i c*(t.b i / t.a i c):=Rat.mul_le_mul_of_nonneg_left u (Rat.le_of_lt hp);have B:t.a i c*(t.b i / t.a i c)=t.b i:=by grind
  grind
 have u:t.a i c*(t.b r / t.a r c)<=0*(t.b r / t.a r c):=Rat.mul_le_mul_of_nonneg_right (by grind) j;have y:=hf i hi;grind
theorem Qkp(ha:a<0)(hb:0<b): a*b<0:=by
 have:=Rat.mul_pos (show 0 < -a by grind) hb;grind
structure Run(m n K:Nat)(T:Nat->QT)(R C:Nat->Nat): Prop where
 w0:WF m n (T 0)
 f0:Kq m (T 0)
 st:∀ k,k<K->Bst m n (T k) (R k) (C k)
 nx:∀ k,k<K->T (k+1)=(T k).pivot (R k) (C k)
section
variable {K:Nat} {T:Nat->QT} {R C:Nat->Nat} (h:Run m n K T R C)
include h
theorem Run.ne(hk:k<K): (T k).a (R k) (C k)≠0:=by have:=(h.st k hk).pos;grind
theorem Run.wf: ∀ {k:Nat},k<=K->WF m n (T k)
 | 0,_=>h.w0
 | k+1,hk=>by rw[h.nx k hk];exact Jcq (Run.wf om) (h.st k hk).rm (h.st k hk).cn (h.ne hk)
theorem Run.feas: ∀ {k:Nat},k<=K->Kq m (T k)
 | 0,_=>h.f0
 | k+1,hk=>by rw[h.nx k hk];exact Jmj (h.st k hk) (Run.feas om)
theorem Run.up{j:Nat}: ∀ {k:Nat},j<=k->k<=K->Eqv m n (T j) (T k)/\Eqv m n (T k) (T j)
 | 0,h1,_=>by(obtain rfl:j=0:=by omega);(exact⟨Eqv.refl _,Eqv.refl _⟩)
 | k+1,h1,hk=>by
  by_cases e:j=k+1
  .subst e;exact⟨Eqv.refl _,Eqv.refl _⟩
  obtain⟨i1,i2⟩:=Run.up (j:=j) (k:=k) om om;rw[h.nx k hk];exact⟨i1.trans (Jmm (h.st k hk).rm (h.ne hk)),(Jmn (h.st k hk).rm (h.ne hk)).trans i2⟩
theorem Run.eqv(hj:j<=K)(hk:k<=K): Eqv m n (T j) (T k):=by
 rcases Nat.le_total j k with e|e
 .exact(h.up e hk).1
 exact(h.up e hj).2
theorem Run.zle{j:Nat}: ∀ {k:Nat},j<=k->k<=K->(T j).z<=(T k).z
 | 0,h1,_=>by(obtain rfl:j=0:=by omega);(grind)
 | k+1,h1,hk=>by
  by_cases e:j=k+1
  .subst e;grind
  have h2:=Run.zle (j:=j) (k:=k) om om;have hs:=h.st k hk;have hq:=Jms (h.feas (k:=k) om _ hs.rm) hs.pos;have h3:(T k).g (C k)*((T k).b (R k) / (T k).a (R k) (C k))<=0*((T k).b (R k) / (T k).a (R k) (C k)):=Rat.mul_le_mul_of_nonneg_right (by have:=hs.ent;grind) hq;rw[h.nx k hk];simp only[QT.pivot];grind
theorem Run.β(hk:k<K): (T (k+1)).β i=if i=R k then C k else(T k).β i:=by rw[h.nx k hk];rfl
theorem Run.enter{y j:Nat}(h0:¬ ∃ i,i<m/\(T j).β i=y): ∀ {k:Nat},j<=k->k<=K->(∃ i,i<m/\(T k).β i=y)->∃ e,j<=e/\e<k/\C e=y
 | 0,h1,_,h2=>by(obtain rfl:j=0:=by omega);(exact absurd h2 h0)
 | k+1,h1,hk,⟨i,hi,h2⟩=>by
  by_cases e:j=k+1
  .subst e;exact absurd ⟨i,hi,h2⟩ h0
  rw[h.β hk]at h2;by_cases e2:i=R k
  .rw[if_pos e2]at h2;exact⟨k,om,om,h2⟩
  rw[if_neg e2]at h2;obtain⟨e,h3,h4,h5⟩:=Run.enter h0 (k:=k) om om ⟨i,hi,h2⟩;exact⟨e,h3,om,h5⟩
theorem Run.leave{y j:Nat}(h0:∃ i,i<m/\(T j).β i=y): ∀ {k:Nat},j<=k->k<=K->(¬ ∃ i,i<m/\(T k).β i=y)->∃ e,j<=e/\e<k/\(T e).β (R e)=y
 | 0,h1,_,h2=>by(obtain rfl:j=0:=by omega);(exact absurd h0 h2)
 | k+1,h1,hk,h2=>by
  by_cases e:j=k+1
  .subst e;exact absurd h0 h2
  by_cases e2:∃ i,i<m/\(T k).β i=y
  .obtain⟨i,hi,h3⟩:=e2;by_cases e3:i=R k
   .exact⟨k,om,om,by rw[<-e3];exact h3⟩
   exact absurd ⟨i,hi,by rw[h.β hk,if_neg e3];exact h3⟩ h2
  obtain⟨e,h3,h4,h5⟩:=Run.leave h0 (k:=k) om om e2;exact⟨e,h3,om,h5⟩
theorem Run.cycle(hpq : p < q)(hq : q ≤ K)(hβ : ∀ i, i < m → (T p).β i = (T q).β i): False := by
  have hs0 := (h.st p om).cn
  have wp := h.wf (k := p) om
  have wq := h.wf hq
  have hx := Ul wp hs0 0
  have he := h.eqv (j := p) (k := q) om hq
  -- the values are the same
  have hz : (T p).z = (T q).z := by
    have h1 := he.val _ hx
    rw [Jxm wp hs0] at h1
    unfold QT.val at h1
    rw [Gf wp hs0 0 (T q).g, Jjc (f := fun i => (T q).g ((T p).β i) * ((T p).b i - (T p).a i (C p) * 0)) fun i hi => by rw [hβ i hi, wq.red i hi]; grind] at h1
    grind
  have hzk : ∀ k, p ≤ k → k ≤ q → (T k).z = (T p).z := fun k h1 h2 => by
    have k1 := h.zle h1 om
    have k2 := h.zle h2 hq
    grind
  have hdeg : ∀ k, p ≤ k → k < q → (T k).b (R k) / (T k).a (R k) (C k) = 0 := fun k h1 h2 => by
    have k1 := hzk k h1 om
    have k2 := hzk (k + 1) om om
    rw [h.nx k om] at k2
    simp only [QT.pivot] at k2
    have k3 := (h.st k om).ent
    have k4 : (T k).g (C k) * ((T k).b (R k) / (T k).a (R k) (C k)) = 0 := by grind
    rcases Rat.mul_eq_zero.1 k4 with k5 | k5
    . grind
    . exact k5
  have hbr : ∀ k, p ≤ k → k < q → (T k).b (R k) = 0 := fun k h1 h2 => by
    have k1 := hdeg k h1 h2
    have k2 := (h.st k om).pos
    grind
  have hbs : ∀ k, p ≤ k → k < q → ∀ i, (T (k + 1)).b i = (T k).b i := fun k h1 h2 i => by
    have k1 := hdeg k h1 h2
    have k2 := hbr k h1 h2
    rw [h.nx k om]
    simp only [QT.pivot]
    by_cases e : i = R k
    . rw [if_pos e, k1, e, k2]
    . rw [if_neg e, k1]; grind
  -- a basic variable that is once beside the basis is 0
  have hZ : ∀ y j k, p ≤ j → j ≤ k → k ≤ q → ((∀ i, i < m → (T j).β i = y → (T j).b i = 0) ↔ ∀ i, i < m → (T k).β i = y → (T k).b i = 0) := by
    intro y j k h1 h2
    induction k with
    | zero => intro _; obtain rfl : j = 0 := by omega
              exact Iff.rfl
    | succ k ih =>
      intro h3
      by_cases e : j = k + 1
      . subst e; exact Iff.rfl
      . rw [ih om om]
        have kb := hbs k om om
        have k0 := hbr k om om
        refine ⟨fun hh i hi hy => ?_, fun hh i hi hy => ?_⟩
        . rw [h.β om] at hy
          rw [kb]
          by_cases e2 : i = R k
          . rw [e2]; exact k0
          . rw [if_neg e2] at hy; exact hh i hi hy
        . by_cases e2 : i = R k
          . rw [e2]; exact k0
          . have := hh i hi (by rw [h.β om, if_neg e2]; exact hy)
            rwa [kb] at this
  have hZ2 : ∀ y j k, p ≤ j → j ≤ q → p ≤ k → k ≤ q → (¬ ∃ i, i < m ∧ (T j).β i = y) → ∀ i, i < m → (T k).β i = y → (T k).b i = 0 := fun y j k h1 h2 h3 h4 h5 => by
    have h6 : ∀ i, i < m → (T j).β i = y → (T j).b i = 0 := fun i hi hy => absurd ⟨i, hi, hy⟩ h5
    rcases Nat.le_total j k with e | e
    . exact (hZ y j k h1 e h4).1 h6
    . exact (hZ y k j h3 e h2).2 h6
  -- the greatest column that comes in
  obtain ⟨u, hu1, hu2, hmax⟩ : ∃ u, p ≤ u ∧ u < q ∧ ∀ e, p ≤ e → e < q → C e ≤ C u := by
    have key : ∀ k, p < k → k ≤ q → ∃ u, p ≤ u ∧ u < k ∧ ∀ e, p ≤ e → e < k → C e ≤ C u := by
      intro k
      induction k with
      | zero => intro h1; omega
      | succ k ih =>
        intro h1 h2
        by_cases e : p = k
        . subst e; exact ⟨p, Nat.le_refl _, by omega, fun e h3 h4 => by rw [show e = p by omega]; exact Nat.le_refl _⟩
        . obtain ⟨u, k1, k2, k3⟩ := ih om om
          by_cases e2 : C u ≤ C k
          . exact ⟨k, by omega, by omega, fun e h3 h4 => by
              by_cases e3 : e = k
              . rw [e3]; exact Nat.le_refl _
              . exact nL (k3 e h3 om) e2⟩
          . exact ⟨u, k1, by omega, fun e h3 h4 => by
              by_cases e3 : e = k
              . rw [e3]; omega
              . exact k3 e h3 om⟩
    exact key q hpq (Nat.le_refl _)
  have su := h.st u om
  have wu := h.wf (k := u) om
  have hnu : ¬ ∃ i, i < m ∧ (T u).β i = C u := fun ⟨i, hi, e⟩ => by
    have := wu.red i hi
    rw [e] at this
    have := su.ent
    grind
  have hiu : ∃ i, i < m ∧ (T (u + 1)).β i = C u := ⟨R u, su.rm, by rw [h.β om, if_pos rfl]⟩
  have hsame : ∀ y, (∃ i, i < m ∧ (T p).β i = y) ↔ ∃ i, i < m ∧ (T q).β i = y := fun y => ⟨fun ⟨i, hi, e⟩ => ⟨i, hi, by rw [← hβ i hi]; exact e⟩, fun ⟨i, hi, e⟩ => ⟨i, hi, by rw [hβ i hi]; exact e⟩⟩
  obtain ⟨v, hv1, hv2, hv⟩ : ∃ v, p ≤ v ∧ v < q ∧ (T v).β (R v) = C u := by
    by_cases e : ∃ i, i < m ∧ (T q).β i = C u
    . obtain ⟨v, k1, k2, k3⟩ := h.leave ((hsame _).2 e) (k := u) hu1 om hnu
      exact ⟨v, k1, by omega, k3⟩
    . obtain ⟨v, k1, k2, k3⟩ := h.leave hiu (k := q) om hq e
      exact ⟨v, by omega, k2, k3⟩
  have sv := h.st v om
  have wv := h.wf (k := v) om
  have hst : C v ≠ C u := fun e => by
    have := wv.red (R v) sv.rm
    rw [hv, ← e] at this
    have := sv.ent
    grind
  have hle := hmax v hv1 hv2
  have hgs := su.first (C v) om
  have hre := Jww wv (h.eqv (j := v) (k := u) om om) sv.cn
  have hsv := sv.ent
  obtain ⟨i, hi, hpi⟩ := Jtf (n := m) (f := fun i => (T u).g ((T v).β i) * (T v).a i (C v)) (by grind)
  have hir : i ≠ R v := fun e => by
    rw [e, hv] at hpi
    have := Qkp su.ent sv.pos
    grind
  have hny : ¬ ∃ k, k < m ∧ (T u).β k = (T v).β i := fun ⟨k, hk, e⟩ => by
    have := wu.red k hk
    rw [e] at this
    rw [this] at hpi
    grind
  have hyv : ∃ k, k < m ∧ (T v).β k = (T v).β i := ⟨i, hi, rfl⟩
  have hy : (T v).β i ≤ C u := by
    have : ∃ e, p ≤ e ∧ e < q ∧ C e = (T v).β i := by
      rcases Nat.le_total u v with e | e
      . obtain ⟨e, k1, k2, k3⟩ := h.enter hny (k := v) e om hyv
        exact ⟨e, by omega, by omega, k3⟩
      . by_cases eq : ∃ k, k < m ∧ (T q).β k = (T v).β i
        . obtain ⟨e, k1, k2, k3⟩ := h.enter hny (k := q) om hq eq
          exact ⟨e, by omega, k2, k3⟩
        . obtain ⟨e, k1, k2, k3⟩ := h.enter (fun hh => eq ((hsame _).1 hh)) (k := v) hv1 om hyv
          exact ⟨e, k1, by omega, k3⟩
    obtain ⟨e, k1, k2, k3⟩ := this
    rw [← k3]; exact hmax e k1 k2
  have hyt : (T v).β i ≠ C u := fun e => hir (wv.inj hi sv.rm (by rw [e, hv]))
  have hgy := su.first ((T v).β i) om
  have hap : 0 < (T v).a i (C v) := by
    rcases Rat.le_total (b := 0) (a := (T v).a i (C v)) with k | k
    . have := Rat.mul_le_mul_of_nonneg_left k hgy
      grind
    . by_cases e : (T v).a i (C v) = 0
      . rw [e] at hpi; grind
      . grind
  have hbi := hZ2 ((T v).β i) u v hu1 om hv1 om hny i hi rfl
  have hra := (sv.ratio i hi hap).2 (by rw [hbi, hdeg v hv1 hv2]; grind)
  rw [hv] at hra
  omega
end
def cod(n:Nat)(β:Nat->Nat): Nat->Nat
 | 0=>0
 | m+1=>cod n β m*n+β m
theorem Jnj{n:Nat}{β:Nat->Nat}: ∀ {m:Nat},(∀ i,i<m->β i<n)->cod n β m<n^m
 | 0,_=>by simp[cod]
 | m+1,h=>by
  have ih:=Jnj (m:=m) λi hi=>h i om;have h1:=h m om;rw[cod,Nat.pow_succ];have h2:(cod n β m+1)*n<=n^m*n:=nO n ih;rw[Nat.succ_mul]at h2;omega
theorem Jnk{n:Nat}{β γ:Nat->Nat}: ∀ {m:Nat},(∀ i,i<m->β i<n)->(∀ i,i<m->γ i<n)->cod n β m=cod n γ m->∀ i,i<m->β i=γ i
 | 0,_,_,_,i,hi=>by omega
 | m+1,h1,h2,e,i,hi=>by
  rw[cod,cod]at e;have b1:=h1 m om;have b2:=h2 m om;have e1:β m=γ m:=by
   have:=congrArg (· % n) e
   simp only[Nat.mul_comm _ n,Nat.mul_add_mod,Nat.mod_eq_of_lt b1,Nat.mod_eq_of_lt b2]at this;exact this
  by_cases ei:i=m
  .rw[ei];exact e1
  refine Jnk (m:=m) (λi hi=>h1 i om) (λi hi=>h2 i om) ?_ i om;rw[e1]at e;exact Nat.eq_of_mul_eq_mul_right om (Nat.add_right_cancel e)
theorem Jxx: ∀(k:Nat) {l:List Nat},l.Nodup->(∀ u∈l,u<k)->l.length<=k
 | 0,l,_,h=>by cases l with
  | nil=>simp
  | cons a l=>exact absurd (h a mC) om
 | k+1,l,hn,h=>by
  by_cases e:k∈l
  .have h1:=Jxx k (l:=l.erase k) (hn.erase k) λu hu=>by
    have h2:=h u (List.mem_of_mem_erase hu);have h3:u≠k:=λe=>by subst e;exact(List.Nodup.mem_erase_iff hn).1 hu |>.1 rfl
    omega
   rw[List.length_erase_of_mem e]at h1;omega
  have:=Jxx k hn λu hu=>by
   have h2:=h u hu;have h3:u≠k:=λe'=>by subst e';exact e hu
   omega
  omega
theorem Run.short{T:Nat->QT}{R C:Nat->Nat}(h:Run m n K T R C): K<n^m:=by
 rcases Nat.lt_or_ge K (n^m) with h1|h1
 .exact h1
 exfalso
 have y:∀ k,k<=K->∀ i,i<m->(T k).β i<n:=λk B i hi=>(h.wf B).lt i hi;have O:=Jxx (n^m) (l:=(List.range (K+1)).map λk=>cod n (T k).β m) (by
  unfold List.Nodup;rw[List.pairwise_map];refine List.pairwise_iff_getElem.2 λi j hi J D=>?_;simp only[List.length_range]at hi J;simp only[List.getElem_range];intro e;exact h.cycle D om (Jnk (y i om) (y j om) e)) (λu G=>by
  obtain⟨k,B,rfl⟩:=List.mem_map.1 G;exact Jnj (y k (by have:=List.mem_range.1 B;omega)))
 simp at O;omega
end Go.Proofs.YtebiphhfkdbpfaaGreatDoor.Bl
namespace Go.Proofs.YtebiphhfkdbpfaaGreatDoor
open Bl
variable {i k:Nat}
theorem PR.cmp_val{a b:PR}(ha:a.den≠0)(hb:b.den≠0): (PR.cmp a b<0↔a.val<b.val)/\(PR.cmp a b=0↔a.val=b.val):=by
 obtain⟨a1,O,a3⟩:=PR.sign_val ha;obtain⟨b1,J,b3⟩:=PR.sign_val hb;have da:a.dvs=a.den:=by rw[PR.dvs,if_neg ha]
 have db:b.dvs=b.den:=by rw[PR.dvs,if_neg hb]
 have G:a.sign = -1∨a.sign=0∨a.sign=1:=by(unfold PR.sign;by_cases y:a.num=0<;>by_cases i:a.neg=true<;>simp[y,i])
 have sb:b.sign = -1∨b.sign=0∨b.sign=1:=by(unfold PR.sign;by_cases y:b.num=0<;>by_cases i:b.neg=true<;>simp[y,i])
 unfold PR.cmp;by_cases e:a.sign=b.sign
 .rw[if_neg (λh=>h e),da,db];have pa:(0:Rat)<a.den:=Rat.natCast_pos.2 om;have Z:(0:Rat)<b.den:=Rat.natCast_pos.2 om;have j:(a.num*b.den<b.num*a.den)↔(a.num:Rat) / a.den<(b.num:Rat) / b.den:=by
   rw[<-Rat.natCast_lt_natCast,Rat.natCast_mul,Rat.natCast_mul,Rat.div_lt_iff pa];have:(b.num:Rat) / b.den*a.den=(b.num*a.den) / b.den:=by grind
   rw[this,Rat.lt_div_iff Z]
  have u:(a.num*b.den=b.num*a.den)↔(a.num:Rat) / a.den=(b.num:Rat) / b.den:=by
   rw[<-Rat.natCast_inj,Rat.natCast_mul,Rat.natCast_mul];constructor<;>intro h<;>grind
  have U:a.sign = -1->a.val = -((a.num:Rat) / a.den):=λh=>by
   unfold PR.sign at h;unfold PR.val;split at h
   .simp at h
   split at h
   .rename_i i;rw[if_pos i];grind
   simp at h
  have vb:b.sign = -1->b.val = -((b.num:Rat) / b.den):=λh=>by
   unfold PR.sign at h;unfold PR.val;split at h
   .simp at h
   split at h
   .rename_i i;rw[if_pos i];grind
   simp at h
  have D:a.sign=1->a.val=(a.num:Rat) / a.den:=λh=>by
   unfold PR.sign at h;unfold PR.val;split at h
   .simp at h
   split at h
   .simp at h
   rename_i i;rw[if_neg i]
  have B:b.sign=1->b.val=(b.num:Rat) / b.den:=λh=>by
   unfold PR.sign at h;unfold PR.val;split at h
   .simp at h
   split at h
   .simp at h
   rename_i i;rw[if_neg i]
  rcases G with h|h|h
  .rw[U h,vb (e ▸ h),h];constructor
   .split
    .have:=j.1 ‹_›;grind
    split
    .have:=u.1 ‹_›;grind
    rename_i y i;rw[j]at y;rw[u]at i;grind
   split
   .have:=j.1 ‹_›;grind
   split
   .have:=u.1 ‹_›;grind
   rename_i y i;rw[j]at y;rw[u]at i;grind
  .have y:=O.1 h;have i:=J.1 (e ▸ h);rw[h,y,i];simp
  rw[D h,B (e ▸ h),h];constructor
  .split
   .have:=j.1 ‹_›;grind
   split
   .have:=u.1 ‹_›;grind
   rename_i y i;rw[j]at y;rw[u]at i;grind
  split
  .have:=j.1 ‹_›;grind
  split
  .have:=u.1 ‹_›;grind
  rename_i y i;rw[j]at y;rw[u]at i;grind
 rw[if_pos e];have:(a.sign<b.sign↔a.val<b.val)/\a.val≠b.val:=by
  rcases G with h|h|h<;>rcases sb with k|k|k<;>first|exact absurd (h.trans k.symm) e|(rw[h]at a1 O a3;rw[k]at b1 J b3;rw[h,k];constructor<;>grind)
 split
 .rename_i h;have:=this.1.1 h;simp[this];exactλe=>by grind
 rename_i h;simp;refine⟨by have:=this.1;grind,this.2⟩
def PT.q(t:PT): QT:=⟨λi j=>((t.rows.getD i []).getD j pr0).val,λi=>((t.rows.getD i []).getD t.right pr0).val,λj=>(t.goal.getD j pr0).val,(t.goal.getD t.right pr0).val,λi=>t.basis.getD i 0⟩
def ROk(k:Nat)(l:List PR): Prop:=l.length=k/\∀ j,j<k->(l.getD j pr0).den≠0
structure POk(t:PT): Prop where
 rows:t.rows.length=t.m
 row:∀ i,i<t.m->ROk (t.right+1) (t.rows.getD i [])
 goal:ROk (t.right+1) t.goal
 basis:t.basis.length=t.m
theorem Qu{α:Type}(d:α){l:List α}(h:i<l.length): l.getD i d=l[i]:=by simp[List.getD,h]
theorem Jzx{row other:List PR}{f:PR}(hr:ROk k row)(ho:ROk k other)(hf:f.den≠0): ROk k (Xh row other f)/\∀ j,j<k->((Xh row other f).getD j pr0).val=(row.getD j pr0).val-f.val*(other.getD j pr0).val:=by
 have u:=(PR.sign_val hf).2.1;unfold Xh;by_cases h0:f.sign=0
 .rw[if_pos h0];refine⟨hr,λj i=>?_⟩;rw[u.1 h0];grind
 rw[if_neg h0];have B:(List.zipWith (λa b=>if b.sign≠0 then PR.sub a (PR.mul f b) else a) row other).length=k:=by rw[List.length_zipWith,hr.1,ho.1,Nat.min_self]
 have key:∀ j,j<k->(List.zipWith (λa b=>if b.sign≠0 then PR.sub a (PR.mul f b) else a) row other).getD j pr0=if(other.getD j pr0).sign≠0 then PR.sub (row.getD j pr0) (PR.mul f (other.getD j pr0)) else row.getD j pr0:=λj i=>by
  rw[Qu pr0 om,Qu pr0 (l:=row) (by rw[hr.1];exact i),Qu pr0 (l:=other) (by rw[ho.1];exact i)];simp
 refine⟨⟨B,λj i=>?_⟩,λj i=>?_⟩
 .rw[key j i];split
  .exact(PR.sub_val (hr.2 j i) (PR.mul_val hf (ho.2 j i)).2).2
  exact hr.2 j i
 rw[key j i];have y:=(PR.sign_val (ho.2 j i)).2.1;split
 .rw[(PR.sub_val (hr.2 j i) (PR.mul_val hf (ho.2 j i)).2).1,(PR.mul_val hf (ho.2 j i)).1]
 rename_i h1;have D:(other.getD j pr0).sign=0:=by
  by_cases e:(other.getD j pr0).sign=0
  .exact e
  exact absurd e h1
 rw[y.1 D];grind
theorem Jyx{row:List PR}{d:PR}(hr:ROk k row)(hd:d.den≠0)(h0:d.val≠0): ROk k (dvR row d)/\∀ j,j<k->((dvR row d).getD j pr0).val=(row.getD j pr0).val / d.val:=by
 have y:(dvR row d).length=k:=by rw[dvR,List.length_map,hr.1]
 have key:∀ j,j<k->(dvR row d).getD j pr0=if(row.getD j pr0).sign≠0 then PR.div (row.getD j pr0) d else row.getD j pr0:=λj i=>by
  rw[Qu pr0 om,Qu pr0 (l:=row) (by rw[hr.1];exact i)];simp[dvR]
 refine⟨⟨y,λj i=>?_⟩,λj i=>?_⟩
 .rw[key j i];split
  .exact(PR.div_val (hr.2 j i) hd h0).2
  exact hr.2 j i
 rw[key j i];have u:=(PR.sign_val (hr.2 j i)).2.1;split
 .exact(PR.div_val (hr.2 j i) hd h0).1
 rename_i h1;have B:(row.getD j pr0).sign=0:=by
  by_cases e:(row.getD j pr0).sign=0
  .exact e
  exact absurd e h1
 rw[u.1 B];grind
open Bl
variable {c cols i r:Nat}{t:PT}{T:QT}
structure Agr(t:PT)(T:QT): Prop where
 ok:POk t
 a:∀ i j,i<t.m->j<t.n+t.m->((t.rows.getD i []).getD j pr0).val=T.a i j
 b:∀ i,i<t.m->((t.rows.getD i []).getD t.right pr0).val=T.b i
 g:∀ j,j<t.n+t.m->(t.goal.getD j pr0).val=T.g j
 z:(t.goal.getD t.right pr0).val=T.z
 β:∀ i,i<t.m->t.basis.getD i 0=T.β i
theorem Jzm{α β:Type}(d:α)(e:β){l:List α}(f:Nat->α->β)(h:i<l.length): (l.mapIdx f).getD i e=f i (l.getD i d):=by
 rw[Qu e (by simpa using h),Qu d h];simp
theorem Qvv{l:List Nat}(h:i<l.length): (l.set r c).getD i 0=if i=r then c else l.getD i 0:=by
 rw[Qu 0 (by simpa using h),Qu 0 h,List.getElem_set];by_cases e:r=i
 .subst e;simp
 rw[if_neg e,if_neg (λh=>e h.symm)]
theorem Qfw(h:Agr t T)(hr:r<t.m)(hc:c<t.n+t.m)(h0:T.a r c≠0): Agr (t.pivot r c) (T.pivot r c):=by
 have hR:=h.ok.row r hr;have U:c<t.right+1:=by unfold PT.right;omega
 have D:t.right<t.right+1:=om
 have G:∀ j,j<t.n+t.m->j<t.right+1:=λj hj=>by unfold PT.right;omega
 have Z:((t.rows.getD r []).getD c pr0).val=T.a r c:=h.a r c hr hc;have hd:=hR.2 c U;obtain⟨dk,dv⟩:=Jyx hR hd (by rw[Z];exact h0);rw[Z]at dv;have B:∀ i,i<t.m->(t.pivot r c).rows.getD i []=if i=r then dvR (t.rows.getD r []) ((t.rows.getD r []).getD c pr0) else Xh (t.rows.getD i []) (dvR (t.rows.getD r []) ((t.rows.getD r []).getD c pr0)) ((t.rows.getD i []).getD c pr0):=λi hi=>by
  unfold PT.pivot;exact Jzm [] [] _ (by rw[h.ok.rows];exact hi)
 have O:=λi (hi:i<t.m)=>Jzx (h.ok.row i hi) dk ((h.ok.row i hi).2 c U);have J:=Jzx h.ok.goal dk (h.ok.goal.2 c U);refine⟨⟨?_,λi hi=>?_,J.1,?_⟩,λi j hi hj=>?_,λi hi=>?_,λj hj=>?_,?_,λi hi=>?_⟩
 .simp only[PT.pivot,List.length_mapIdx];exact h.ok.rows
 .have u:i<t.m:=hi;rw[B i u];by_cases e:i=r
  .rw[if_pos e];exact dk
  rw[if_neg e];exact(O i u).1
 .simp only[PT.pivot,List.length_set];exact h.ok.basis
 .have u:i<t.m:=hi;have y:j<t.n+t.m:=hj;rw[B i u];simp only[QT.pivot];by_cases e:i=r
  .rw[if_pos e,if_pos e,dv j (G j y),h.a r j hr y]
  rw[if_neg e,if_neg e,(O i u).2 j (G j y),h.a i j u y,h.a i c u hc,dv j (G j y),h.a r j hr y]
 .have u:i<t.m:=hi;rw[B i u];simp only[QT.pivot];have er:(t.pivot r c).right=t.right:=rfl;rw[er];by_cases e:i=r
  .rw[if_pos e,if_pos e,dv _ D,h.b r hr]
  rw[if_neg e,if_neg e,(O i u).2 _ D,h.b i u,h.a i c u hc,dv _ D,h.b r hr]
 .have y:j<t.n+t.m:=hj;simp only[QT.pivot];exact(J.2 j (G j y)).trans (by rw[h.g j y,h.g c hc,dv j (G j y),h.a r j hr y])
 .simp only[QT.pivot];exact(J.2 _ D).trans (by rw[h.z,h.g c hc,dv _ D,h.b r hr])
 have u:i<t.m:=hi;simp only[QT.pivot,PT.pivot];rw[Qvv (by rw[h.ok.basis];exact u),h.β i u]
theorem Jhl{t:PT}{T:QT}{c:Nat}(h:Agr t T)(hc:c<t.n+t.m): ∀ k,k<=t.m->match lvS t c k with
  | none=>∀ i,i<k->¬ 0<T.a i c
  | some (r,q)=>r<k/\0<T.a r c/\q.den≠0/\q.val=T.b r / T.a r c/\∀ i,i<k->0<T.a i c->T.b r / T.a r c<=T.b i / T.a i c/\(T.b i / T.a i c=T.b r / T.a r c->T.β r<=T.β i)
 | 0,_=>by simp only[lvS];intro i hi;omega
 | k+1,hk=>by
  have ih:=Jhl h hc k om;have hR:=h.ok.row k om;have hcR:c<t.right+1:=by unfold PT.right;omega
  have hrR:t.right<t.right+1:=om
  have ha:=h.a k c om hc;have hb:=h.b k om;have hs:=PR.sign_val (hR.2 c hcR);rw[ha]at hs;simp only[lvS];by_cases e:((t.rows.getD k []).getD c pr0).sign<=0
  .rw[if_pos e];have hn:¬ 0<T.a k c:=λhp=>by have:=hs.2.2.2 hp;omega
   cases hl:lvS t c k with
   | none=>
    rw[hl]at ih;intro i hi;by_cases ei:i=k
    .rw[ei];exact hn
    exact ih i om
   | some p=>
    obtain⟨r,q⟩:=p;rw[hl]at ih;obtain⟨h1,h2,h3,h4,h5⟩:=ih;refine⟨om,h2,h3,h4,λi hi hp=>?_⟩;by_cases ei:i=k
    .rw[ei]at hp;exact absurd hp hn
    exact h5 i om hp
  rw[if_neg e];have hp:0<T.a k c:=hs.2.2.1 om;have hq:=PR.div_val (hR.2 t.right hrR) (hR.2 c hcR) (by rw[ha];grind);rw[ha,hb]at hq;cases hl:lvS t c k with
  | none=>
   rw[hl]at ih;refine⟨om,hp,hq.2,hq.1,λi hi hpi=>?_⟩;by_cases ei:i=k
   .subst ei;exact⟨by grind,λ_=>Nat.le_refl _⟩
   exact absurd hpi (ih i om)
  | some p=>
   obtain⟨r,q⟩:=p;rw[hl]at ih;obtain⟨h1,h2,h3,h4,h5⟩:=ih;have hcv:=PR.cmp_val hq.2 h3;rw[hq.1,h4]at hcv;simp only[];by_cases e2:PR.cmp (PR.div ((t.rows.getD k []).getD t.right pr0) ((t.rows.getD k []).getD c pr0)) q<0∨(PR.cmp (PR.div ((t.rows.getD k []).getD t.right pr0) ((t.rows.getD k []).getD c pr0)) q=0/\t.basis.getD k 0<t.basis.getD r 0)
   .rw[if_pos e2];rw[hcv.1,hcv.2,h.β k om,h.β r om]at e2;refine⟨om,hp,hq.2,hq.1,λi hi hpi=>?_⟩;by_cases ei:i=k
    .subst ei;exact⟨by grind,λ_=>Nat.le_refl _⟩
    obtain⟨k1,k2⟩:=h5 i om hpi;rcases e2 with e2|⟨e2,e3⟩
    .exact⟨by grind,λhe=>by exfalso;grind⟩
    refine⟨by grind,λhe=>?_⟩;have:=k2 (by grind);omega
   rw[if_neg e2];rw[hcv.1,hcv.2,h.β k om,h.β r om]at e2;refine⟨om,h2,h3,h4,λi hi hpi=>?_⟩;by_cases ei:i=k
   .subst ei;have k1:¬ T.b i / T.a i c<T.b r / T.a r c:=λhh=>e2 (.inl hh);exact⟨by grind,λhe=>by
     rcases Nat.lt_or_ge (T.β i) (T.β r) with hh|hh
     .exact absurd (.inr ⟨he,hh⟩) e2
     exact hh⟩
   exact h5 i om hpi
theorem Jmp(h:Agr t T)(hc:cols<=t.n+t.m): match t.enter cols with
  | none=>∀ j,j<cols->0<=T.g j
  | some c=>c<cols/\T.g c<0/\∀ j,j<c->0<=T.g j:=by
 have u:∀ j,j<cols->((t.goal.getD j pr0).sign<0↔T.g j<0):=λj i=>by
  have:=(PR.sign_val (h.ok.goal.2 j (by unfold PT.right;omega))).1;rw[h.g j om]at this;exact this
 cases hl:t.enter cols with
 | none=>
  intro j i;unfold PT.enter at hl;have:=List.find?_eq_none.1 hl j (List.mem_range.2 i);simp only[decide_eq_true_eq]at this;rw[u j i]at this;grind
 | some c=>
  unfold PT.enter at hl;rw[List.find?_range_eq_some]at hl;obtain⟨B,y,D⟩:=hl;simp only[decide_eq_true_eq,List.mem_range]at B y;refine⟨y,(u c y).1 B,λj i=>?_⟩;have:=D j i;simp only[Bool.not_eq_true',decide_eq_false_iff_not]at this;rw[u j om]at this;grind
def Bnd(m n:Nat)(T0:QT): Prop:=∀ S,WF m n S->Kq m S->Eqv m n T0 S->Eqv m n S T0->∀ c,c<n->S.g c<0->∃ i,i<m/\0<S.a i c
open Bl
variable {A:List (List PR)}{n:Nat}
namespace Bl
variable {k m n:Nat}{f:Nat->Rat}
theorem Jwb(h:∀ j,j<n->0<=f j): 0<=Jw n f:=by
 induction n with
 | zero=>simp[Jw]
 | succ n ih=>
  have y:=ih λj i=>h j om;have u:=h n om;rw[Jw];grind
theorem Jtg(h:∀ j,j<n->0<=f j)(hk:k<n): f k<=Jw n f:=by
 induction n with
 | zero=>omega
 | succ n ih=>
  have y:=Jwb (n:=n) (f:=f) λj i=>h j om;have u:=h n om;rw[Jw];by_cases e:k=n
  .subst e;grind
  have:=ih (λj i=>h j om) om;grind
theorem Qkq{a b:Rat}(ha:0<=a)(hb:0<=b): 0<=a*b:=Rat.mul_nonneg ha hb
def pck(n:Nat)(A:Nat->Nat->Rat): QT:=⟨λi j=>if j<n then A i j else if j-n=i then 1 else 0,λ_=>1,λj=>if j<n then -1 else 0,0,λi=>n+i⟩
theorem Jvg(n m:Nat)(A:Nat->Nat->Rat): WF m (n+m) (pck n A):=by
 refine⟨λi hi=>by simp only[pck];omega,λi k hi j=>?_,λi hi=>?_⟩
 .simp only[pck];rw[if_neg om,show n+i-n=i by omega];by_cases e:k=i
  .rw[if_pos e,if_pos e.symm]
  rw[if_neg e,if_neg (λh=>e h.symm)]
 simp only[pck];rw[if_neg om]
theorem Jgh(n m:Nat)(A:Nat->Nat->Rat): Kq m (pck n A):=λi hi=>by simp only[pck];grind
theorem Qxp{A:Nat->Nat->Rat}(h0:∀ i j,i<m->j<n->0<=A i j)(h1:∀ j,j<n->∃ i,i<m/\A i j=1): Bnd m (n+m) (pck n A):=λS O B he Z c D hg=>by
 rcases Classical.em (∃ i,i<m/\0<S.a i c) with h|h
 .exact h
 exfalso
 have J:=Z.sol _ (Ul O D 2);have y:∀ j,0<=S.pt m c 2 j:=λj=>by
  unfold QT.pt;have:0<=Jw m λi=>if S.β i=j then S.b i-S.a i c*2 else 0:=Jwb λi hi=>by
   split
   .have G:=B i hi;have u:S.a i c<=0:=by
     rcases Rat.le_total (a:=S.a i c) (b:=0) with k|k
     .exact k
     by_cases e:S.a i c=0
     .grind
     exact absurd ⟨i,hi,by grind⟩ h
    grind
   grind
  split<;>grind
 have U:2<=S.pt m c 2 c:=by
  unfold QT.pt;have:0<=Jw m λi=>if S.β i=c then S.b i-S.a i c*2 else 0:=Jwb λi hi=>by
   split
   .have G:=B i hi;have u:S.a i c<=0:=by
     rcases Rat.le_total (a:=S.a i c) (b:=0) with k|k
     .exact k
     by_cases e:S.a i c=0
     .grind
     exact absurd ⟨i,hi,by grind⟩ h
    grind
   grind
  rw[if_pos rfl];grind
 have key:∀ i,i<m->(pck n A).a i c=1->False:=λi hi e=>by
  have k:=J i hi;have u:(pck n A).a i c*S.pt m c 2 c<=Jw (n+m) λj=>(pck n A).a i j*S.pt m c 2 j:=Jtg (f:=λj=>(pck n A).a i j*S.pt m c 2 j) (λj hj=>Qkq (by
   simp only[pck];split
   .rename_i hj2;exact h0 i j hi hj2
   split<;>grind) (y j)) D
  rw[k,e]at u;simp only[pck]at u;grind
 by_cases e:c<n
 .obtain⟨i,hi,e1⟩:=h1 c e;exact key i hi (by simp only[pck];rw[if_pos e,e1])
 exact key (c-n) om (by simp only[pck];rw[if_neg e];simp)
end Bl
def Xc(A:List (List PR)): Nat->Nat->Rat:=λi j=>((A.getD i []).getD j pr0).val
theorem Jjr{α:Type}(d:α)(l k:List α)(j:Nat): (l++k).getD j d=if j<l.length then l.getD j d else k.getD (j-l.length) d:=by
 by_cases h:j<l.length
 .rw[if_pos h];simp[List.getD,List.getElem?_append_left h]
 rw[if_neg h];simp[List.getD,List.getElem?_append_right (Nat.le_of_not_lt h)]
theorem Jxn: (PR.int 1).val=1:=by decide +kernel
theorem Jfx: (PR.int (-1)).val = -1:=by decide +kernel
theorem Kd: pr0.val=0:=by decide +kernel
theorem Jjk: ∀ i,i<A.length->(PT.ofP n A).rows.getD i []=A.getD i []++(List.range A.length).map (λk=>if k=i then PR.int 1 else pr0)++[PR.int (-1),PR.int 1]:=λi hi=>by
 unfold PT.ofP;exact Jzm [] [] _ hi
theorem Kl(hA:∀ i,i<A.length->ROk n (A.getD i [])): ∀ i j,i<A.length->((PT.ofP n A).rows.getD i []).getD j pr0=if j<n then(A.getD i []).getD j pr0 else if j<n+A.length then(if j-n=i then PR.int 1 else pr0) else if j=n+A.length then PR.int (-1) else if j=n+A.length+1 then PR.int 1 else pr0:=λi j hi=>by
 have u:=(hA i hi).1;rw[Jjk i hi,Jjr];simp only[List.length_append,u,List.length_map,List.length_range];by_cases h1:j<n
 .rw[if_pos om,if_pos h1,Jjr,u,if_pos h1]
 rw[if_neg h1];by_cases h2:j<n+A.length
 .rw[if_pos h2,if_pos h2,Jjr,u,if_neg h1,Qu pr0 (by simp;omega)];simp
 rw[if_neg h2,if_neg h2];by_cases h3:j=n+A.length
 .rw[if_pos h3,h3,Nat.sub_self];rfl
 rw[if_neg h3];by_cases h4:j=n+A.length+1
 .rw[if_pos h4,h4,show n+A.length+1-(n+A.length)=1 by omega];rfl
 rw[if_neg h4];obtain⟨d,y⟩:∃ d,j-(n+A.length)=d+2:=⟨j-(n+A.length)-2,om⟩;rw[y];rfl
theorem Jxt: ∀ j,(PT.ofP n A).goal.getD j pr0=if j<n then PR.int (-1) else pr0:=λj=>by
 simp only[PT.ofP];rw[Jjr,List.length_replicate];by_cases h1:j<n
 .rw[if_pos h1,if_pos h1,Qu pr0 (by simpa using h1)];simp
 rw[if_neg h1,if_neg h1];by_cases h2:j-n<A.length+2
 .rw[Qu pr0 (by simpa using h2)];simp
 simp[List.getD,List.getElem?_eq_none (show(List.replicate (A.length+2) pr0).length<=j-n by simp;omega)]
theorem Qzl(hA:∀ i,i<A.length->ROk n (A.getD i [])): Agr (PT.ofP n A) (pck n (Xc A)):=by
 have G:=Jjk (n:=n) (A:=A);have B:=Kl hA;have y:=Jxt (n:=n) (A:=A);have D:pr0.den≠0:=by decide
 refine⟨⟨by simp[PT.ofP],λi hi=>⟨?_,λj J=>?_⟩,⟨by simp[PT.ofP,PT.right];omega,λj J=>?_⟩,by simp[PT.ofP]⟩,λi j hi J=>?_,λi hi=>?_,λj J=>?_,?_,λi hi=>?_⟩
 .have u:i<A.length:=hi;rw[G i u,List.length_append,List.length_append,(hA i u).1];simp[PT.right,PT.ofP]
 .have u:i<A.length:=hi;rw[B i j u];split
  .rename_i h1;exact(hA i u).2 j h1
  split
  .split
   .decide
   exact D
  split
  .decide
  split
  .decide
  exact D
 .rw[y];split
  .decide
  exact D
 .have u:i<A.length:=hi;have O:j<n+A.length:=J;rw[B i j u];simp only[pck];by_cases h1:j<n
  .rw[if_pos h1,if_pos h1];rfl
  rw[if_neg h1,if_pos O,if_neg h1];split
  .exact Jxn
  exact Kd
 .have u:i<A.length:=hi;rw[B i _ u];have e:(PT.ofP n A).right=n+A.length+1:=rfl;rw[e,if_neg om,if_neg om,if_neg om,if_pos rfl];exact Jxn
 .rw[y];simp only[pck];split
  .exact Jfx
  exact Kd
 .have e:(PT.ofP n A).right=n+A.length+1:=rfl;rw[y,e,if_neg om];exact Kd
 have u:i<A.length:=hi;simp only[PT.ofP,pck];rw[Qu 0 (by simpa using u)];simp
end Go.Proofs.YtebiphhfkdbpfaaGreatDoor
namespace Go.Proofs.YtebiphhfkdbpfaaGreatDoor.Bl
variable {j k l m n:Nat}{b f x:Nat->Rat}
abbrev MQ:= Nat->Nat->Rat
def Qv(k:Nat)(M:MQ): MQ:=λi j=>M (i+1) (if j<k then j else j+1)
def sg(j:Nat): Rat:=if j % 2=0 then 1 else -1
def det: Nat->MQ->Rat
 | 0,_=>1
 | m+1,M=>Jw (m+1) λj=>sg j*M 0 j*det m (Qv j M)
theorem Jtx(k:Nat): sg (k+1) = -sg k:=by
 unfold sg;by_cases h:k % 2=0
 .rw[if_pos h,if_neg om]
 rw[if_neg h,if_pos om];grind
theorem Jjx: ∀ {m:Nat} {M N:MQ},(∀ i j,i<m->j<m->M i j=N i j)->det m M=det m N
 | 0,_,_,_=>rfl
 | m+1,M,N,h=>by
  rw[det,det];refine Ub λj hj=>?_;rw[h 0 j om hj,Jjx (m:=m) (M:=Qv j M) (N:=Qv j N) λi k hi hk=>by
   unfold Qv;split<;>exact h _ _ om om]
def Jm(M:MQ)(k:Nat)(v:Nat->Rat): MQ:=λi j=>if j=k then v i else M i j
theorem Jyz(M:MQ)(k:Nat)(v:Nat->Rat): Qv k (Jm M k v)=Qv k M:=by
 funext i j
 simp only[Qv,Jm];rw[if_neg (by split<;>omega)]
theorem Jbb(M:MQ)(h:j≠k)(v:Nat->Rat): Qv j (Jm M k v)=Jm (Qv j M) (if k<j then k else k-1) (λi=>v (i+1)):=by
 funext i l
 simp only[Qv,Jm];by_cases e:l=if k<j then k else k-1
 .rw[if_pos e,if_pos (by split at e<;>split<;>omega)]
 rw[if_neg e,if_neg (by split at e<;>split<;>omega)]
theorem Gs: ∀ {m:Nat} (M:MQ) {k:Nat} (hk:k<m) (u w:Nat->Rat) (s:Rat),det m (Jm M k λi=>u i+s*w i)=det m (Jm M k u)+s*det m (Jm M k w)
 | 0,_,_,hk,_,_,_=>by omega
 | m+1,M,k,hk,u,w,s=>by
  rw[det,det,det,<-Gv,<-Jwc];refine Ub λj hj=>?_;by_cases e:j=k
  .subst e;rw[Jyz,Jyz,Jyz];simp only[Jm,if_true];grind
  rw[Jbb M e,Jbb M e,Jbb M e,Gs (m:=m) (Qv j M) (k:=if k<j then k else k-1) (by split<;>omega) (λi=>u (i+1)) (λi=>w (i+1)) s];simp only[Jm,if_neg e];grind
theorem Jtc(hk:k+1<n)(h:∀ j,j<n->j≠k->j≠k+1->f j=0): Jw n f=f k+f (k+1):=by
 induction n with
 | zero=>omega
 | succ n ih=>
  rw[Jw];by_cases e:n=k+1
  .subst e;rw[Uy (c:=k) om λj u i=>h j om i om]
  rw[ih om λj u B y=>h j om B y,h n om om om];grind
theorem Jzv: ∀ {m:Nat} {M:MQ} {k:Nat},k+1<m->(∀ i,i<m->M i k=M i (k+1))->det m M=0
 | 0,_,_,hk,_=>by omega
 | m+1,M,k,hk,h=>by
  rw[det,Jtc (k:=k) hk]
  .have e:det m (Qv k M)=det m (Qv (k+1) M):=Jjx λi j hi hj=>by
    simp only[Qv];by_cases e1:j<k
    .rw[if_pos e1,if_pos om]
    by_cases e2:j=k
    .subst e2;rw[if_neg e1,if_pos om];exact(h (i+1) om).symm
    rw[if_neg e1,if_neg om]
   rw[e,Jtx,h 0 om];grind
  intro j hj h1 h2;have:det m (Qv j M)=0:=by
   by_cases e:j<k
   .refine Jzv (k:=k-1) om λi hi=>?_;simp only[Qv];rw[if_neg om,if_neg om,show k-1+1=k by omega];exact h (i+1) om
   refine Jzv (k:=k) om λi hi=>?_;simp only[Qv];rw[if_pos om,if_pos om];exact h (i+1) om
  rw[this];grind
theorem Jwh(M:MQ)(k:Nat): Jm M k (λi=>M i k)=M:=by
 funext i j;simp only[Jm];split
 .rename_i h;rw[h]
 rfl
theorem Kb(M:MQ)(h:k≠l)(u w:Nat->Rat): Jm (Jm M k u) l w=Jm (Jm M l w) k u:=by
 funext i j;simp only[Jm]
 by_cases e:j=l
 .rw[if_pos e,if_neg om,if_pos e]
 rw[if_neg e];split<;>rfl
theorem Qbl(M:MQ)(hk:k+1<m)(u w:Nat->Rat): det m (Jm (Jm M k u) (k+1) w) = -det m (Jm (Jm M k w) (k+1) u):=by
 have z:∀ v:Nat->Rat,det m (Jm (Jm M k v) (k+1) v)=0:=λv=>Jzv hk λi hi=>by simp[Jm]
 have h:=z (λi=>u i+1*w i);rw[Gs _ hk,Kb M om _ u,Kb M om _ w,Gs _ om,Gs _ om]at h;rw[Kb (k:=k+1) (l:=k) M om u u,Kb (k:=k+1) (l:=k) M om w w,Kb (k:=k+1) (l:=k) M om u w,Kb (k:=k+1) (l:=k) M om w u,z,z]at h;grind
theorem Jbd{m:Nat}: ∀ {d:Nat} {M:MQ} {k:Nat},k+1+d<m->(∀ i,i<m->M i k=M i (k+1+d))->det m M=0
 | 0,M,k,hk,h=>Jzv hk h
 | d+1,M,k,hk,h=>by
  have e:M=Jm (Jm M (k+1+d) λi=>M i (k+1+d)) (k+1+d+1) λi=>M i (k+1+d+1):=by
   rw[Jwh,Jwh]
  rw[e,Qbl M om];rw[Jbd (d:=d) (k:=k) om λi hi=>by
   simp only[Jm];rw[if_neg om,if_neg om,if_neg om,if_pos trivial];exact h i hi]
  grind
theorem Qbn{M:MQ}(hk:k<m)(hl:l<m)(hne:k≠l)(h:∀ i,i<m->M i k=M i l): det m M=0:=by
 rcases Nat.lt_or_gt_of_ne hne with e|e
 .exact Jbd (d:=l-k-1) (k:=k) om λi hi=>by rw[show k+1+(l-k-1)=l by omega];exact h i hi
 exact Jbd (d:=k-l-1) (k:=l) om λi hi=>by rw[show l+1+(k-l-1)=k by omega];exact(h i hi).symm
theorem Gt{M:MQ}(hk:k<m)(h:∀ i,i<m->Jw m (λj=>M i j*x j)=b i): det m (Jm M k b)=x k*det m M:=by
 have z0:det m (Jm M k λ_=>0)=0:=by
  have h0:=Gs M hk (λ_=>0) (λ_=>0) 1;have e:(λ_:Nat=>(0:Rat)+1*0)=λ_=>0:=by funext i;grind
  rw[e]at h0;grind
 have key:∀ J,J<=m->det m (Jm M k λi=>Jw J λj=>M i j*x j)=Jw J λj=>x j*det m (Jm M k λi=>M i j):=by
  intro J;induction J with
  | zero=>intro _;simp only[Jw];exact z0
  | succ J ih=>
   intro B;simp only[Jw];rw[<-ih om,<-Gs M hk];congr 2;funext i;grind
 have e:det m (Jm M k b)=det m (Jm M k λi=>Jw m λj=>M i j*x j):=Jjx λi j hi y=>by
  simp only[Jm];split
  .exact(h i hi).symm
  rfl
 rw[e,key m (Nat.le_refl _),Uy hk,Jwh];intro j y u;rw[Qbn (k:=k) (l:=j) hk y (λh=>u h.symm) λi hi=>by
  simp only[Jm,if_true];rw[if_neg u]]
 grind
end Go.Proofs.YtebiphhfkdbpfaaGreatDoor.Bl
namespace Go.Proofs.YtebiphhfkdbpfaaGreatDoor.Bl
variable {B C c i k r:Nat}{S T0:QT}{p q:Rat}
variable {m n:Nat}
def fct: Nat->Nat
 | 0=>1
 | m+1=>(m+1)*fct m
def isI(q:Rat)(B:Nat): Prop:=∃ z:Int,q=z/\z.natAbs<=B
theorem isI.mono(h:isI q B)(hc:B<=C): isI q C:=by
 obtain⟨z,e,i⟩:=h;exact⟨z,e,om⟩
theorem isI.mul(h:isI p B)(k:isI q C): isI (p*q) (B*C):=by
 obtain⟨z,rfl,i⟩:=h;obtain⟨w,rfl,j⟩:=k;exact⟨z*w,by rw[Rat.intCast_mul],by rw[Int.natAbs_mul];exact Nat.mul_le_mul i j⟩
theorem isI.add(h:isI p B)(k:isI q C): isI (p+q) (B+C):=by
 obtain⟨z,rfl,i⟩:=h;obtain⟨w,rfl,j⟩:=k;exact⟨z+w,by rw[Rat.intCast_add],om⟩
theorem isI.neg(h:isI p B): isI (-p) B:=by
 obtain⟨z,rfl,i⟩:=h;exact⟨-z,by rw[Rat.intCast_neg],om⟩
theorem Jyg{f:Nat->Rat}(h:∀ j,j<k->isI (f j) B): isI (Jw k f) (k*B):=by
 induction k with
 | zero=>exact⟨0,rfl,by simp⟩
 | succ k ih=>
  have:=(ih λj i=>h j om).add (h k om);rw[Nat.succ_mul];exact this
theorem Jyh(j:Nat): isI (sg j) 1:=by
 unfold sg;split
 .exact⟨1,rfl,by simp⟩
 exact⟨-1,rfl,by simp⟩
theorem Uu: ∀ {m:Nat} {M:MQ},(∀ i j,i<m->j<m->isI (M i j) 1)->isI (det m M) (fct m)
 | 0,_,_=>⟨1,rfl,by simp[fct]⟩
 | m+1,M,h=>by
  rw[det,fct];refine Jyg λj hj=>?_;have h1:=((Jyh j).mul (h 0 j om hj)).mul (Uu (m:=m) (M:=Qv j M) λi k hi hk=>by
   unfold Qv;split<;>exact h _ _ om om)
  exact h1.mono (by simp)
theorem Jmx: ∀ {m:Nat} {M:MQ},(∀ i j,i<m->j<m->M i j=if i=j then 1 else 0)->det m M=1
 | 0,_,_=>rfl
 | m+1,M,h=>by
  rw[det,Uy (c:=0) om]
  .rw[Jmx (m:=m) (M:=Qv 0 M) λi j hi hj=>by
    simp only[Qv];rw[if_neg om,h _ _ om om];by_cases e:i=j
    .rw[if_pos e,if_pos om]
    rw[if_neg e,if_neg om],h 0 0 om om]
   simp[sg]
  intro j hj hne;rw[h 0 j om hj,if_neg (λh=>hne h.symm)];grind
def bas(T0 S:QT): MQ:=λi k=>T0.a i (S.β k)
theorem Ga(hw:WF m n S)(he:Eqv m n S T0)(hc:c<n)(hi:i<m): Jw m (λk=>bas T0 S i k*S.a k c)=T0.a i c/\Jw m (λk=>bas T0 S i k*S.b k)=T0.b i:=by
 have h0:=he.sol _ (Ul hw hc 0) i hi;have j:=he.sol _ (Ul hw hc 1) i hi;rw[Gf hw hc]at h0 j;have e:Jw m (λk=>T0.a i (S.β k)*(S.b k-S.a k c*1))=Jw m (λk=>T0.a i (S.β k)*(S.b k-S.a k c*0))-1*Jw m (λk=>T0.a i (S.β k)*S.a k c):=by
  rw[<-Jjd];congr 1;funext k;grind
 have u:Jw m (λk=>T0.a i (S.β k)*(S.b k-S.a k c*0))=Jw m (λk=>T0.a i (S.β k)*S.b k):=by
  congr 1;funext k;grind
 rw[e]at j;rw[u]at h0 j;unfold bas;exact⟨by grind,by grind⟩
theorem Qbm(hw:WF m n S)(he:Eqv m n S T0)(hr:r<m)(hc:c<n): det m (bas T0 (S.pivot r c))=S.a r c*det m (bas T0 S):=by
 rw[<-Gt (M:=bas T0 S) (x:=λk=>S.a k c) (b:=λi=>T0.a i c) hr λi hi=>(Ga hw he hc hi).1];refine Jjx λi j hi u=>?_;simp only[bas,Jm,QT.pivot];split<;>rfl
def isQ(q:Rat)(B D:Nat): Prop:=∃ a d:Rat,isI a B/\isI d D/\d≠0/\q=a / d
theorem Qyp(h0:∀ i j,i<m->j<n->isI (T0.a i j) 1)(h1:∀ i,i<m->isI (T0.b i) 1)(hw:WF m n S)(he:Eqv m n S T0)(hd:det m (bas T0 S)≠0)(hn:0<n): (∀ k c,k<m->c<n->isQ (S.a k c) (fct m) (fct m))/\∀ k,k<m->isQ (S.b k) (fct m) (fct m):=by
 have B:∀ i j,i<m->j<m->isI (bas T0 S i j) 1:=λi j hi u=>h0 i _ hi (hw.lt j u);have G:=Uu B;refine⟨λk c y D=>⟨_,_,Uu (M:=Jm (bas T0 S) k λi=>T0.a i c) λi j hi u=>?_,G,hd,?_⟩,λk y=>⟨_,_,Uu (M:=Jm (bas T0 S) k λi=>T0.b i) λi j hi u=>?_,G,hd,?_⟩⟩
 .simp only[Jm];split
  .exact h0 i c hi D
  exact B i j hi u
 .rw[Gt (x:=λk=>S.a k c) y λi hi=>(Ga hw he D hi).1];grind
 .simp only[Jm];split
  .exact h1 i hi
  exact B i j hi u
 rw[Gt (x:=λk=>S.b k) y λi hi=>(Ga hw he hn hi).2];grind
theorem Qqc(h0:∀ i j,i<m->j<n->isI (T0.a i j) 1)(h2:∀ j,j<n->isI (T0.g j) 1)(hw:WF m n S)(he:Eqv m n S T0)(hd:det m (bas T0 S)≠0): ∀ c,c<n->isQ (S.g c) (fct (m+1)) (fct m):=λc u=>by
 have J:∀ i j,i<m->j<m->isI (bas T0 S i j) 1:=λi j hi D=>h0 i _ hi (hw.lt j D);have G:=Uu J;refine⟨T0.g c*det m (bas T0 S) + -(Jw m λk=>T0.g (S.β k)*det m (Jm (bas T0 S) k λi=>T0.a i c)),_,?_,G,hd,?_⟩
 .refine(((h2 c u).mul G).add (Jyg (B:=fct m) λk y=>?_).neg).mono (by rw[fct,Nat.add_mul];omega);exact((h2 _ (hw.lt k y)).mul (Uu λi j hi D=>by
   simp only[Jm];split
   .exact h0 i c hi u
   exact J i j hi D)).mono (by simp)
 have h:=Jww hw he u;rw[Ub (g:=λk=>det m (bas T0 S)*(T0.g (S.β k)*S.a k c)) λk y=>by
  rw[Gt (x:=λk=>S.a k c) y λi hi=>(Ga hw he u hi).1];grind]
 rw[Gv];grind
end Go.Proofs.YtebiphhfkdbpfaaGreatDoor.Bl
namespace Go.Proofs.YtebiphhfkdbpfaaGreatDoor
open Bl
variable {B D c k r:Nat}
structure PR.Nrm(a:PR): Prop where
 den:a.den≠0
 cop:Nat.gcd a.num a.den=1
 sgn:a.num=0->a.neg=false
theorem PR.norm_nrm{a:PR}(h:a.den≠0): a.norm.Nrm:=by
 refine⟨(PR.norm_val h).2,?_,?_⟩
 .unfold PR.norm;split
  .simp
  rename_i h1;have i:0<Nat.gcd a.num a.den:=Nat.gcd_pos_of_pos_left _ om;simp only;rw[Nat.gcd_div (Nat.gcd_dvd_left _ _) (Nat.gcd_dvd_right _ _),Nat.div_self i]
 unfold PR.norm;split
 .intro e;simp only at e ⊢;rw[e];simp
 rename_i h1;intro e;simp only at e;obtain⟨x,j⟩:=Nat.gcd_dvd_left a.num a.den;have i:0<Nat.gcd a.num a.den:=Nat.gcd_pos_of_pos_left _ om;rw[Nat.div_eq_zero_iff]at e;have:=Nat.le_of_dvd om (Nat.gcd_dvd_left a.num a.den);omega
theorem PR.int_nrm(z:Int): (PR.int z).Nrm:=⟨by simp[PR.int],by simp[PR.int],λe=>by
 simp only[PR.int]at e ⊢;simp only[decide_eq_false_iff_not];omega⟩
theorem Jjg: pr0.Nrm:=⟨by decide,by decide,λ_=>rfl⟩
theorem PR.Nrm.norm{a:PR}(h:a.Nrm): a.norm=a:=by
 unfold PR.norm;by_cases e:a.num=0
 .rw[if_pos (.inl e)];have i:=h.cop;rw[e,Nat.gcd_zero_left]at i;have j:=h.sgn e;cases a;simp_all
 rw[if_neg (by have:=h.den;omega),h.cop];simp
theorem PR.addN_nrm{a b:PR}(ha:a.den≠0)(hb:b.den≠0): (PR.addN a b).Nrm:=by
 have i:a.den*b.den≠0:=Nat.mul_ne_zero ha hb;unfold PR.addN;split
 .exact PR.norm_nrm i
 split<;>exact PR.norm_nrm i
theorem PR.sub_nrm{a b:PR}(ha:a.den≠0)(hb:b.den≠0): (PR.sub a b).Nrm:=PR.addN_nrm (PR.norm_val ha).2 (PR.norm_val (PR.opp_val hb).2).2
theorem PR.mul_nrm{a b:PR}(ha:a.den≠0)(hb:b.den≠0): (PR.mul a b).Nrm:=PR.norm_nrm (Nat.mul_ne_zero (PR.norm_val ha).2 (PR.norm_val hb).2)
theorem PR.div_nrm{a b:PR}(ha:a.den≠0)(hb:b.den≠0)(h0:b.val≠0): (PR.div a b).Nrm:=by
 have i:=PR.norm_val hb;have hn:b.norm.num≠0:=λe=>h0 (by
  rw[<-i.1];have:=Vj i.2;simp only[PR.val,e];split<;>grind)
 unfold PR.div;rw[if_neg hn];exact PR.mul_nrm ha hn
theorem PR.Nrm.le{a:PR}(h:a.Nrm)(hq:isQ a.val B D): a.num<=B/\a.den<=D:=by
 obtain⟨_,_,⟨p,rfl,hp⟩,⟨q,rfl,G⟩,h0,i⟩:=hq;have J:q≠0:=λe=>h0 (by rw[e];rfl);have hd:=Vj h.den;have key:∃ z:Int,z.natAbs=a.num/\z*q=p*a.den:=by
  unfold PR.val at i;cases hn:a.neg
  .refine⟨a.num,by simp,?_⟩;rw[hn]at i;simp only[Bool.false_eq_true,if_false]at i;rw[<-Rat.intCast_inj,Rat.intCast_mul,Rat.intCast_mul,Rat.intCast_natCast,Rat.intCast_natCast];grind
  refine⟨-a.num,by simp,?_⟩;rw[hn]at i;simp only[if_true]at i;rw[<-Rat.intCast_inj,Rat.intCast_mul,Rat.intCast_mul,Rat.intCast_neg,Rat.intCast_natCast,Rat.intCast_natCast];grind
 obtain⟨z,y,e⟩:=key;have j:a.num*q.natAbs=p.natAbs*a.den:=by
  rw[<-y,<-Int.natAbs_mul,e,Int.natAbs_mul];simp
 have u:Nat.Coprime a.num a.den:=h.cop;have U:a.den ∣ q.natAbs:=(u.symm).dvd_of_dvd_mul_left (⟨p.natAbs,by rw[j,Nat.mul_comm]⟩);have O:a.num ∣ p.natAbs:=u.dvd_of_dvd_mul_right (⟨q.natAbs,j.symm⟩);have Z:=Nat.le_of_dvd om U;refine⟨?_,om⟩;by_cases ep:p=0
 .rw[ep]at j;have:a.num*q.natAbs=0:=by rw[j];simp
  rcases Nat.mul_eq_zero.1 this with k|k
  .omega
  omega
 have:=Nat.le_of_dvd om O;omega
structure PNm(t:PT): Prop where
 row:∀ i j,i<t.m->j<t.right+1->((t.rows.getD i []).getD j pr0).Nrm
 goal:∀ j,j<t.right+1->(t.goal.getD j pr0).Nrm
theorem Jnt{row other:List PR}{f:PR}(hr:ROk k row)(ho:ROk k other)(hf:f.den≠0)(hn:∀ j,j<k->(row.getD j pr0).Nrm): ∀ j,j<k->((Xh row other f).getD j pr0).Nrm:=λj i=>by
 unfold Xh;split
 .exact hn j i
 have u:(List.zipWith (λa b=>if b.sign≠0 then PR.sub a (PR.mul f b) else a) row other).length=k:=by rw[List.length_zipWith,hr.1,ho.1,Nat.min_self]
 have key:(List.zipWith (λa b=>if b.sign≠0 then PR.sub a (PR.mul f b) else a) row other).getD j pr0=if(other.getD j pr0).sign≠0 then PR.sub (row.getD j pr0) (PR.mul f (other.getD j pr0)) else row.getD j pr0:=by
  rw[Qu pr0 om,Qu pr0 (l:=row) (by rw[hr.1];exact i),Qu pr0 (l:=other) (by rw[ho.1];exact i)];simp
 rw[key];split
 .exact PR.sub_nrm (hr.2 j i) (PR.mul_val hf (ho.2 j i)).2
 exact hn j i
theorem Qyw{row:List PR}{d:PR}(hr:ROk k row)(hd:d.den≠0)(h0:d.val≠0)(hn:∀ j,j<k->(row.getD j pr0).Nrm): ∀ j,j<k->((dvR row d).getD j pr0).Nrm:=λj i=>by
 have key:(dvR row d).getD j pr0=if(row.getD j pr0).sign≠0 then PR.div (row.getD j pr0) d else row.getD j pr0:=by
  have u:(dvR row d).length=k:=by rw[dvR,List.length_map,hr.1]
  rw[Qu pr0 om,Qu pr0 (l:=row) (by rw[hr.1];exact i)];simp[dvR]
 rw[key];split
 .exact PR.div_nrm (hr.2 j i) hd h0
 exact hn j i
theorem Qxf{t:PT}{T:QT}(h:Agr t T)(hn:PNm t)(hr:r<t.m)(hc:c<t.n+t.m)(h0:T.a r c≠0): PNm (t.pivot r c):=by
 have J:=h.ok.row r hr;have y:c<t.right+1:=by unfold PT.right;omega
 have D:((t.rows.getD r []).getD c pr0).val≠0:=by rw[h.a r c hr hc];exact h0
 have O:=(Jyx J (J.2 c y) D).1;refine⟨λi j hi B=>?_,λj B=>Jnt h.ok.goal O (h.ok.goal.2 c y) hn.goal j B⟩;have u:i<t.m:=hi;have G:j<t.right+1:=B;have e:(t.pivot r c).rows.getD i []=if i=r then dvR (t.rows.getD r []) ((t.rows.getD r []).getD c pr0) else Xh (t.rows.getD i []) (dvR (t.rows.getD r []) ((t.rows.getD r []).getD c pr0)) ((t.rows.getD i []).getD c pr0):=by
  unfold PT.pivot;exact Jzm [] [] _ (by rw[h.ok.rows];exact u)
 rw[e];split
 .exact Qyw J (J.2 c y) D (λj B=>hn.row r j hr B) j G
 exact Jnt (h.ok.row i u) O ((h.ok.row i u).2 c y) (λj B=>hn.row i j u B) j G
open Bl
variable {c m n r:Nat}{t:PT}{S T T0:QT}
namespace Bl
theorem z_isQ{m n:Nat}{T0 S:QT}(h0:∀ i j,i<m->j<n->isI (T0.a i j) 1)(h1:∀ i,i<m->isI (T0.b i) 1)(h2:∀ j,j<n->isI (T0.g j) 1)(hz:T0.z=0)(hw:WF m n S)(he:Eqv m n S T0)(hd:det m (bas T0 S)≠0)(hn:0<n): isQ S.z (fct (m+1)) (fct m):=by
 have G:∀ i j,i<m->j<m->isI (bas T0 S i j) 1:=λi j hi D=>h0 i _ hi (hw.lt j D);have u:=he.val _ (Ul hw hn 0);rw[Jxm hw hn]at u;unfold QT.val at u;rw[Gf hw hn 0 T0.g,hz]at u;have e:Jw m (λk=>T0.g (S.β k)*(S.b k-S.a k 0*0))=Jw m λk=>T0.g (S.β k)*S.b k:=by congr 1;funext k;grind
 rw[e]at u;refine⟨-(Jw m λk=>T0.g (S.β k)*det m (Jm (bas T0 S) k λi=>T0.b i)),_,?_,Uu G,hd,?_⟩
 .refine(Jyg (B:=fct m) λk y=>?_).neg.mono (by rw[fct,Nat.add_mul];omega);exact((h2 _ (hw.lt k y)).mul (Uu λi j hi D=>by
   simp only[Jm];split
   .exact h1 i hi
   exact G i j hi D)).mono (by simp)
 rw[Ub (g:=λk=>det m (bas T0 S)*(T0.g (S.β k)*S.b k)) λk y=>by
  rw[Gt (x:=λk=>S.b k) y λi hi=>(Ga hw he hn hi).2];grind]
 rw[Gv];grind
theorem isQ.neg{q:Rat}{B D:Nat}(h:isQ q B D): isQ (-q) B D:=by
 obtain⟨a,d,j,i,h0,e⟩:=h;exact⟨-a,d,j.neg,i,h0,by rw[e];grind⟩
theorem isQ.mono{q:Rat}{B C D:Nat}(h:isQ q B D)(k:B<=C): isQ q C D:=by
 obtain⟨a,d,j,i,h0,e⟩:=h;exact⟨a,d,j.mono k,i,h0,e⟩
theorem Jzs(m:Nat): fct m<=fct (m+1):=by rw[fct,Nat.add_mul];omega
end Bl
structure Art(t:PT): Prop where
 row:∀ i,i<t.m->((t.rows.getD i []).getD (t.n+t.m) pr0).val = -((t.rows.getD i []).getD t.right pr0).val
 goal:(t.goal.getD (t.n+t.m) pr0).val = -(t.goal.getD t.right pr0).val
theorem Qft(h:Agr t T)(ha:Art t)(hr:r<t.m)(hc:c<t.n+t.m)(h0:T.a r c≠0): Art (t.pivot r c):=by
 have J:=h.ok.row r hr;have B:c<t.right+1:=by unfold PT.right;omega
 have u:t.right<t.right+1:=om
 have j:t.n+t.m<t.right+1:=by unfold PT.right;omega
 have D:((t.rows.getD r []).getD c pr0).val≠0:=by rw[h.a r c hr hc];exact h0
 obtain⟨O,dv⟩:=Jyx J (J.2 c B) D;have G:=Jzx h.ok.goal O (h.ok.goal.2 c B);refine⟨λi hi=>?_,?_⟩
 .have y:i<t.m:=hi;have e:(t.pivot r c).rows.getD i []=if i=r then dvR (t.rows.getD r []) ((t.rows.getD r []).getD c pr0) else Xh (t.rows.getD i []) (dvR (t.rows.getD r []) ((t.rows.getD r []).getD c pr0)) ((t.rows.getD i []).getD c pr0):=by
   unfold PT.pivot;exact Jzm [] [] _ (by rw[h.ok.rows];exact y)
  have U:(t.pivot r c).right=t.right:=rfl;have es:(t.pivot r c).n+(t.pivot r c).m=t.n+t.m:=rfl;rw[e,U,es];split
  .rw[dv _ j,dv _ u,ha.row r hr];grind
  have hc:=Jzx (h.ok.row i y) O ((h.ok.row i y).2 c B);rw[hc.2 _ j,hc.2 _ u,dv _ j,dv _ u,ha.row r hr,ha.row i y];grind
 refine(G.2 _ j).trans (Eq.trans ?_ (congrArg (- ·) (G.2 _ u).symm))
 rw[dv _ j,dv _ u,ha.row r hr,ha.goal];grind
structure PSt(n m:Nat)(T0:QT)(t:PT)(S:QT): Prop where
 agr:Agr t S
 nrm:PNm t
 art:Art t
 em:t.m=m
 en:t.n=n
 wf:WF m (n+m) S
 feas:Kq m S
 e1:Eqv m (n+m) T0 S
 e2:Eqv m (n+m) S T0
 det:det m (bas T0 S)≠0
theorem PSt.pivot(h:PSt n m T0 t S)(hB:Bst m (n+m) S r c): PSt n m T0 (t.pivot r c) (S.pivot r c):=by
 obtain⟨u,hn,j,rfl,rfl,y,D,J,B,G⟩:=h;have i:S.a r c≠0:=by have:=hB.pos;grind
 refine⟨Qfw u hB.rm hB.cn i,Qxf u hn hB.rm hB.cn i,Qft u j hB.rm hB.cn i,rfl,rfl,Jcq y hB.rm hB.cn i,Jmj hB D,J.trans (Jmm hB.rm i),(Jmn hB.rm i).trans B,?_⟩;rw[Qbm y B hB.rm hB.cn];intro e;rcases Rat.mul_eq_zero.1 e with e|e
 .exact i e
 exact G e
theorem PSt.next(h:PSt n m T0 t S)(hb:Bnd m (n+m) T0)(hc:t.enter (n+m)=some c): c<n+m/\∃ r,t.leaving c=some r/\r<m/\Bst m (n+m) S r c/\PSt n m T0 (t.pivot r c) (S.pivot r c):=by
 have D:=Jmp h.agr (cols:=n+m) (by rw[h.em,h.en];exact Nat.le_refl _);rw[hc]at D;obtain⟨u,J,Z⟩:=D;obtain⟨i,hi,y⟩:=hb _ h.wf h.feas h.e1 h.e2 c u J;have j:=Jhl h.agr (c:=c) (by rw[h.em,h.en];exact u) t.m (Nat.le_refl _);rw[h.em]at j;cases hq:lvS t c m with
 | none=>rw[hq]at j;exact absurd y (j i hi)
 | some p=>
  obtain⟨r,q⟩:=p;rw[hq]at j;obtain⟨B,U,v3,v4,O⟩:=j;have G:Bst m (n+m) S r c:=⟨B,u,J,Z,U,O⟩;exact⟨u,r,by unfold PT.leaving;rw[h.agr.ok.rows,h.em,hq];rfl,B,G,h.pivot G⟩
theorem PSt.small(h:PSt n m T0 t S)(h0:∀ i j,i<m->j<n+m->isI (T0.a i j) 1)(h1:∀ i,i<m->isI (T0.b i) 1)(h2:∀ j,j<n+m->isI (T0.g j) 1)(hz:T0.z=0)(hnm:0<n+m): (∀ i j,i<m->j<n+m+2->((t.rows.getD i []).getD j pr0).num<=fct (m+1)/\((t.rows.getD i []).getD j pr0).den<=fct m)/\∀ j,j<n+m+2->(t.goal.getD j pr0).num<=fct (m+1)/\(t.goal.getD j pr0).den<=fct m:=by
 obtain⟨y,hn,u,rfl,rfl,B,hf,e1,G,D⟩:=h;obtain⟨Z,O⟩:=Qyp h0 h1 B G D hnm;have U:=Qqc h0 h2 B G D;have J:=z_isQ h0 h1 h2 hz B G D hnm;have er:t.right=t.n+t.m+1:=rfl;refine⟨λi j hi hj=>(hn.row i j hi om).le ?_,λj hj=>(hn.goal j om).le ?_⟩
 .by_cases c1:j<t.n+t.m
  .rw[y.a i j hi c1];exact(Z i j hi c1).mono (Jzs _)
  by_cases c2:j=t.right
  .rw[c2,y.b i hi];exact(O i hi).mono (Jzs _)
  rw[show j=t.n+t.m by omega,u.row i hi,y.b i hi];exact((O i hi).mono (Jzs _)).neg
 by_cases c1:j<t.n+t.m
 .rw[y.g j c1];exact U j c1
 by_cases c2:j=t.right
 .rw[c2,y.z];exact J
 rw[show j=t.n+t.m by omega,u.goal,y.z];exact J.neg
open Bl
variable {A:List (List PR)}{fuel i j n:Nat}
def Bin(n:Nat)(A:List (List PR)): Prop:=∀ i,i<A.length->(A.getD i []).length=n/\∀ j,j<n->(A.getD i []).getD j pr0=pr0∨(A.getD i []).getD j pr0=PR.int 1
theorem Bin.rok(h:Bin n A): ∀ i,i<A.length->ROk n (A.getD i []):=λi hi=>⟨(h i hi).1,λj u=>by
 rcases(h i hi).2 j u with e|e<;>rw[e]<;>decide⟩
theorem Bin.mat(h:Bin n A)(hi:i<A.length)(hj:j<n): Xc A i j=0∨Xc A i j=1:=by
 unfold Xc;rcases(h i hi).2 j hj with e|e<;>rw[e]
 .exact .inl Kd
 exact .inr Jxn
theorem Qxn(h:Bin n A): (∀ i j,i<A.length->j<n+A.length->isI ((pck n (Xc A)).a i j) 1)/\(∀ i,i<A.length->isI ((pck n (Xc A)).b i) 1)/\∀ j,j<n+A.length->isI ((pck n (Xc A)).g j) 1:=by
 have y:isI 0 1:=⟨0,rfl,by simp⟩;have u:isI 1 1:=⟨1,rfl,by simp⟩;refine⟨λi j hi B=>?_,λi hi=>u,λj B=>?_⟩
 .simp only[pck];split
  .rename_i h1;rcases h.mat hi h1 with e|e<;>rw[e]
   .exact y
   exact u
  split
  .exact u
  exact y
 simp only[pck];split
 .exact u.neg
 exact y
theorem PSt.start(h:Bin n A): PSt n A.length (pck n (Xc A)) (PT.ofP n A) (pck n (Xc A)):=by
 have y:=PR.int_nrm 1;have J:=PR.int_nrm (-1);refine⟨Qzl h.rok,⟨λi j hi B=>?_,λj B=>?_⟩,⟨λi hi=>?_,?_⟩,rfl,rfl,Jvg _ _ _,Jgh _ _ _,Eqv.refl _,Eqv.refl _,?_⟩
 .have u:i<A.length:=hi;rw[Kl h.rok i j u];split
  .rename_i h1;rcases(h i u).2 j h1 with e|e<;>rw[e]
   .exact Jjg
   exact y
  split
  .split
   .exact y
   exact Jjg
  split
  .exact J
  split
  .exact y
  exact Jjg
 .rw[Jxt];split
  .exact J
  exact Jjg
 .have u:i<A.length:=hi;have G:(PT.ofP n A).n+(PT.ofP n A).m=n+A.length:=rfl;have D:(PT.ofP n A).right=n+A.length+1:=rfl;rw[Kl h.rok i _ u,Kl h.rok i _ u,G,D,if_neg om,if_neg om,if_pos rfl,if_neg om,if_neg om,if_neg om,if_pos rfl,Jfx,Jxn]
 .have G:(PT.ofP n A).n+(PT.ofP n A).m=n+A.length:=rfl;have D:(PT.ofP n A).right=n+A.length+1:=rfl;rw[Jxt,Jxt,G,D,if_neg om,if_neg om,Kd];grind
 rw[Jmx λi j hi B=>by unfold bas;rw[(Jvg n A.length (Xc A)).unit j i B hi]];simp
theorem PSt.ends{n m:Nat}{T0:QT}(hb:Bnd m (n+m) T0): ∀(fuel:Nat) {K:Nat} {T:Nat->QT} {R C:Nat->Nat} {t:PT},Run m (n+m) K T R C->T 0=T0->PSt n m T0 t (T K)->(n+m)^m<=K+fuel->∃ t' S,PT.maxim (n+m) fuel t=some t'/\PSt n m T0 t' S/\∀ j,j<n+m->0<=S.g j
 | 0,K,T,R,C,t,h,h0,hs,hf=>by have:=h.short;omega
 | fuel+1,K,T,R,C,t,h,h0,hs,hf=>by
  cases hl:t.enter (n+m) with
  | none=>
   have he:=Jmp hs.agr (cols:=n+m) (by rw[hs.em,hs.en];exact Nat.le_refl _);rw[hl]at he;exact⟨t,T K,by simp only[PT.maxim,hl],hs,he⟩
  | some c=>
   obtain⟨hc,r,hlv,hr,hB,hn⟩:=hs.next hb hl;have hrun:Run m (n+m) (K+1) (λk=>if k<=K then T k else(T K).pivot r c) (λk=>if k<K then R k else r) (λk=>if k<K then C k else c):=by
    refine⟨by simp only[Nat.zero_le,if_true];exact h.w0,by simp only[Nat.zero_le,if_true];exact h.f0,λk hk=>?_,λk hk=>?_⟩
    .rw[if_pos (show k<=K by omega)];by_cases e:k<K
     .rw[if_pos e,if_pos e];exact h.st k e
     rw[if_neg e,if_neg e,show k=K by omega];exact hB
    rw[if_pos (show k<=K by omega)];by_cases e:k<K
    .rw[if_pos e,if_pos e,if_pos (show k+1<=K by omega)];exact h.nx k e
    rw[if_neg e,if_neg e,if_neg (show¬ k+1<=K by omega),show k=K by omega]
   obtain⟨t',S,g1,g2⟩:=PSt.ends hb fuel (t:=t.pivot r c) hrun (by simp only[Nat.zero_le,if_true];exact h0) (by
    simp only[if_neg (show¬ K+1<=K by omega)];exact hn) om
   exact⟨t',S,by simp only[PT.maxim,hl,hlv];exact g1,g2⟩
theorem Jgn(h:Bin n A)(h1:∀ j,j<n->∃ i,i<A.length/\Xc A i j=1)(hf:(n+A.length)^A.length<=fuel): Bnd A.length (n+A.length) (pck n (Xc A))/\∃ t' S,PT.maxim (n+A.length) fuel (PT.ofP n A)=some t'/\PSt n A.length (pck n (Xc A)) t' S/\∀ j,j<n+A.length->0<=S.g j:=by
 have u:Bnd A.length (n+A.length) (pck n (Xc A)):=Qxp (λi j hi B=>by rcases h.mat hi B with e|e<;>rw[e]<;>grind) h1;exact⟨u,PSt.ends u fuel (K:=0) (T:=λ_=>pck n (Xc A)) (R:=λ_=>0) (C:=λ_=>0) ⟨Jvg _ _ _,Jgh _ _ _,λk y=>om,λk y=>om⟩ rfl (PSt.start h) om⟩
open Bl
namespace Bl
def bpt(m:Nat)(S:QT)(v:Nat): Rat:=Jw m λi=>if S.β i=v then S.b i else 0
end Bl
theorem PSt.dual{n m:Nat}{T0 S:QT}{t:PT}(h:PSt n m T0 t S): t.dual.length=m/\∀ i,i<m->(t.dual.getD i pr0).val=S.g (n+i):=by
 obtain⟨y,hn,u,rfl,rfl,D,G,Z,U,J⟩:=h;have B:=y.ok.goal.1;have O:t.right=t.n+t.m+1:=rfl;have j:t.dual.length=t.m:=by unfold PT.dual;rw[List.length_take,List.length_drop,B];omega
 refine⟨j,λi hi=>?_⟩;rw[<-y.g (t.n+i) om,Qu pr0 om,Qu pr0 (l:=t.goal) om];simp[PT.dual]
theorem PSt.point{n m:Nat}{T0 S:QT}{t:PT}(h:PSt n m T0 t S): t.point.length=n/\∀ v,v<n->(t.point.getD v pr0).val=bpt m S v:=by
 obtain⟨u,hn,D,rfl,rfl,O,hf,e1,e2,hd⟩:=h;have hl:=u.ok.basis;have j:t.point.length=t.n:=by simp[PT.point]
 refine⟨j,λv Z=>?_⟩;rw[Qu pr0 om];simp only[PT.point,List.getElem_map,List.getElem_range];unfold bpt;cases hq:(List.range t.basis.length).reverse.find? λi=>t.basis.getD i 0 == v with
 | none=>
  simp only[];rw[Kd,Jjc];intro i hi;have:=List.find?_eq_none.1 hq i (by simp;omega);rw[u.β i hi]at this;rw[if_neg (by simpa using this)]
 | some i=>
  simp only[];have J:=List.find?_some hq;have y:i<t.m:=by
   have:=List.mem_of_find?_eq_some hq;simp at this;omega
  rw[u.β i y]at J;have G:S.β i=v:=by simpa using J
  rw[u.b i y,Uy y λk U B=>by
   rw[if_neg (λe=>B (O.inj U y (by rw[e,G])))],if_pos G]
end Go.Proofs.YtebiphhfkdbpfaaGreatDoor
namespace Go.Proofs.YtebiphhfkdbpfaaGreatDoor.Bl
variable {k m:Nat}
def cnt: Nat->(Nat->Bool)->Nat
 | 0,_=>0
 | m+1,P=>cnt m P+(P m).toNat
theorem Jnm: ∀ {m:Nat} {P Q:Nat->Bool},(∀ j,j<m->P j=Q j)->cnt m P=cnt m Q
 | 0,_,_,_=>rfl
 | m+1,P,Q,h=>by rw[cnt,cnt,Jnm λj hj=>h j om,h m om]
def skp(j l:Nat): Nat:=if l<j then l else l+1
theorem Jbj{P:Nat->Bool}{j:Nat}: ∀ {m:Nat},j<=m->cnt m (λl=>P (skp j l))+(P j).toNat=cnt (m+1) P
 | 0,h=>by(obtain rfl:j=0:=by omega);(simp[cnt])
 | m+1,h=>by
  by_cases e:j=m+1
  .subst e;rw[Jnm (Q:=P) λl hl=>by rw[skp,if_pos hl]];simp[cnt]
  have ih:=Jbj (P:=P) (j:=j) (m:=m) om;rw[cnt,cnt];have:skp j m=m+1:=by rw[skp,if_neg om]
  rw[this];omega
theorem Jjt{p:Nat}: ∀ {q:Nat},p<=q->fct p<=fct q
 | 0,h=>by(obtain rfl:p=0:=by omega);(exact Nat.le_refl _)
 | q+1,h=>by
  by_cases e:p=q+1
  .rw[e];exact Nat.le_refl _
  have:=Jjt (p:=p) (q:=q) om;have h2:fct q<=fct (q+1):=by rw[fct,Nat.add_mul];omega
  omega
theorem Jyf{B:Nat}{f:Nat->Rat}{P:Nat->Bool}: ∀ {k:Nat},(∀ j,j<k->P j=true->isI (f j) B)->(∀ j,j<k->P j=false->f j=0)->isI (Jw k f) (cnt k P*B)
 | 0,_,_=>⟨0,rfl,by simp⟩
 | k+1,h,z=>by
  have ih:=Jyf (k:=k) (λj hj=>h j om) λj hj=>z j om;rw[Jw,cnt];cases e:P k with
  | true=>exact(ih.add (h k om e)).mono (by rw[Nat.add_mul];simp)
  | false=>
   rw[z k om e];have:Jw k f+0=Jw k f:=by grind
   rw[this];exact ih.mono (by simp)
theorem Qbk{M:MQ}(hk:k<m)(h:∀ i,i<m->M i k=0): det m M=0:=by
 have h0:=Gs M hk (λ_=>0) (λ_=>0) 1;have e:(λ_:Nat=>(0:Rat)+1*0)=λ_=>0:=by funext i;grind
 rw[e]at h0;have u:det m M=det m (Jm M k λ_=>0):=Jjx λi j hi y=>by
  simp only[Jm];split
  .rename_i hj2;rw[hj2];exact h i hi
  rfl
 rw[u];grind
def Uni(m:Nat)(M:MQ)(j:Nat): Prop:=∃ r,∀ i,i<m->M i j=if i=r then 1 else 0
theorem Jbc: ∀ {m:Nat} {M:MQ} {P:Nat->Bool},(∀ i j,i<m->j<m->isI (M i j) 1)->(∀ j,j<m->P j=false->Uni m M j)->isI (det m M) (fct (cnt m P))
 | 0,_,_,_,_=>⟨1,rfl,by simp[fct,cnt]⟩
 | m+1,M,P,h,hu=>by
  have hd:∀ j,j<m+1->isI (det m (Qv j M)) (fct (cnt m λl=>P (skp j l))):=λj hj=>Jbc (λi k hi hk=>by
   unfold Qv;split<;>exact h _ _ om om) λl hl hp=>by
   have hs:skp j l<m+1:=by unfold skp;split<;>omega
   obtain⟨r,hr⟩:=hu _ hs hp;refine⟨if r=0 then m else r-1,λi hi=>?_⟩;have:=hr (i+1) om;simp only[Qv];unfold skp at this;rw[this];by_cases e:r=0
   .rw[if_pos e,if_neg om,if_neg om]
   rw[if_neg e];by_cases e2:i+1=r
   .rw[if_pos e2,if_pos om]
   rw[if_neg e2,if_neg om]
  rw[det];rcases Classical.em (∃ j,j<m+1/\P j=false/\M 0 j=1) with⟨j,hj,hp,h1⟩|hno
  .obtain⟨r,hr⟩:=hu j hj hp;have hr0:r=0:=by
    have:=hr 0 om;by_cases e:r=0
    .exact e
    rw[if_neg (λh=>e h.symm),h1]at this;simp at this
   rw[Uy hj λl hl hne=>by
    rw[Qbk (m:=m) (M:=Qv l M) (k:=if j<l then j else j-1) (by split<;>omega) λi hi=>by
     simp only[Qv];have e:(if(if j<l then j else j-1)<l then(if j<l then j else j-1) else(if j<l then j else j-1)+1)=j:=by
      by_cases e:j<l
      .rw[if_pos e,if_pos e]
      rw[if_neg e,if_neg om];omega
     rw[e,hr (i+1) om,if_neg om]]
    grind]
   have hc:=Jbj (P:=P) (m:=m) (j:=j) om;rw[hp]at hc;have h2:=((Jyh j).mul (h 0 j om hj)).mul (hd j hj);exact h2.mono (by rw[<-hc];simp)
  have hz:∀ j,j<m+1->P j=false->sg j*M 0 j*det m (Qv j M)=0:=λj hj hp=>by
   obtain⟨r,hr⟩:=hu j hj hp;have h0:=hr 0 om;have:M 0 j=0:=by
    by_cases e:0=r
    .rw[if_pos e]at h0;exact absurd ⟨j,hj,hp,h0⟩ hno
    rw[if_neg e]at h0;exact h0
   rw[this];grind
  have ht:∀ j,j<m+1->P j=true->isI (sg j*M 0 j*det m (Qv j M)) (fct (cnt (m+1) P-1)):=λj hj hp=>by
   have hc:=Jbj (P:=P) (m:=m) (j:=j) om;rw[hp]at hc;have e:cnt (m+1) P-1=cnt m λl=>P (skp j l):=by rw[<-hc];simp
   rw[e];exact(((Jyh j).mul (h 0 j om hj)).mul (hd j hj)).mono (by simp)
  have hs:=Jyf ht hz;refine hs.mono ?_;cases e:cnt (m+1) P with
  | zero=>simp
  | succ q=>simp[fct]
end Go.Proofs.YtebiphhfkdbpfaaGreatDoor.Bl
namespace Go.Proofs.YtebiphhfkdbpfaaGreatDoor
open Bl
namespace Bl
variable {B k m n:Nat}
theorem Jnl{P:Nat->Bool}: ∀ m,cnt m P=((List.range m).filter P).length
 | 0=>rfl
 | m+1=>by
  rw[cnt,Jnl m,List.range_succ,List.filter_append,List.length_append];cases e:P m<;>simp[e]
theorem cnt_le{P:Nat->Bool}{f:Nat->Nat}(h:∀ k,k<m->P k=true->f k<n)(hi:∀ k l,k<m->l<m->P k=true->P l=true->f k=f l->k=l): cnt m P<=n:=by
 rw[Jnl,<-List.length_map (f:=f)];refine Jxx n ?_ λu j=>?_
 .unfold List.Nodup;rw[List.pairwise_map];have hn:((List.range m).filter P).Pairwise (λa b=>a<b):=List.Pairwise.filter _ List.pairwise_lt_range;refine hn.imp_of_mem fun {a b} ha hb hab e=>?_
  simp only[List.mem_filter,List.mem_range]at ha hb;have:=hi a b ha.1 hb.1 ha.2 hb.2 e;omega
 obtain⟨k,i,rfl⟩:=List.mem_map.1 j;simp only[List.mem_filter,List.mem_range]at i;exact h k i.1 i.2
variable {n m:Nat} {A:MQ} {S:QT}
theorem Jpj(hw:WF m (n+m) S)(hk:k<m)(h:¬ S.β k<n): Uni m (bas (pck n A) S) k:=⟨S.β k-n,λi hi=>by
 simp only[bas,pck];rw[if_neg h];by_cases e:S.β k-n=i
 .rw[if_pos e,if_pos e.symm]
 rw[if_neg e,if_neg (λh=>e h.symm)]⟩
theorem Qfp(h0:∀ i j,i<m->j<n+m->isI ((pck n A).a i j) 1)(hw:WF m (n+m) S): isI (det m (bas (pck n A) S)) (fct n):=by
 refine(Jbc (P:=λk=>decide (S.β k<n)) (λi j hi y=>h0 i _ hi (hw.lt j y)) λj y u=>Jpj hw y (by simpa using u)).mono (Jjt (cnt_le (f:=S.β) (λk B u=>by simpa using u) λk l B D _ _ e=>hw.inj B D e))
theorem Jkg(h0:∀ i j,i<m->j<n+m->isI ((pck n A).a i j) 1)(hw:WF m (n+m) S)(hk:k<m){v:Nat->Rat}(hv:∀ i,i<m->isI (v i) 1): isI (det m (Jm (bas (pck n A) S) k v)) (fct (n+1)):=by
 refine(Jbc (P:=λl=>l == k || decide (S.β l<n)) (λi j hi D=>?_) λj D u=>?_).mono (Jjt (cnt_le (f:=λl=>if l=k then n else S.β l) (λl G u=>?_) λl J G B u y e=>?_))
 .simp only[Jm];split
  .exact hv i hi
  exact h0 i _ hi (hw.lt j D)
 .simp only[Bool.or_eq_false_iff,beq_eq_false_iff_ne,decide_eq_false_iff_not]at u;obtain⟨r,O⟩:=Jpj (A:=A) hw D u.2;exact⟨r,λi hi=>by simp only[Jm];rw[if_neg u.1];exact O i hi⟩
 .simp only[Bool.or_eq_true,beq_iff_eq,decide_eq_true_eq]at u;split<;>omega
 simp only[Bool.or_eq_true,beq_iff_eq,decide_eq_true_eq]at u y;by_cases e1:l=k<;>by_cases e2:J=k
 .omega
 .rw[if_pos e1,if_neg e2]at e;omega
 .rw[if_neg e1,if_pos e2]at e;omega
 rw[if_neg e1,if_neg e2]at e;exact hw.inj G B e
theorem Jpk(hw:WF m (n+m) S){f:Nat->Rat}(hf:∀ k,k<m->isI (f k) B): isI (Jw m λk=>(pck n A).g (S.β k)*f k) (n*B):=by
 refine(Jyf (P:=λk=>decide (S.β k<n)) (B:=B) (λk j i=>?_) λk j i=>?_).mono (nO B (cnt_le (f:=S.β) (λk j i=>by simpa using i) λk l j u _ _ e=>hw.inj j u e))
 .simp only[pck];rw[if_pos (by simpa using i)];exact(isI.mul (p:=-1) (B:=1) ⟨-1,rfl,by simp⟩ (hf k j)).mono (by simp)
 simp only[pck];rw[if_neg (by simpa using i)];grind
end Bl
theorem PSt.few{n m:Nat}{A:MQ}{S:QT}{t:PT}(h:PSt n m (pck n A) t S)(h0:∀ i j,i<m->j<n+m->isI ((pck n A).a i j) 1)(hnm:0<n+m): (∀ i j,i<m->j<n+m+2->((t.rows.getD i []).getD j pr0).num<=fct (n+1)/\((t.rows.getD i []).getD j pr0).den<=fct n)/\∀ j,j<n+m+2->(t.goal.getD j pr0).num<=(n+1)*fct (n+1)/\(t.goal.getD j pr0).den<=fct n:=by
 obtain⟨G,hn,D,rfl,rfl,y,hf,e1,Z,U⟩:=h;have er:t.right=t.n+t.m+1:=rfl;have J:=Qfp h0 y;have i1:∀ i,i<t.m->isI ((pck t.n A).b i) 1:=λi hi=>⟨1,rfl,by simp⟩;have cA:∀ k c,k<t.m->c<t.n+t.m->Bl.det t.m (Jm (bas (pck t.n A) S) k λi=>(pck t.n A).a i c)=S.a k c*Bl.det t.m (bas (pck t.n A) S):=λk c u B=>Gt (x:=λk=>S.a k c) u λi hi=>(Ga y Z B hi).1;have cB:∀ k,k<t.m->Bl.det t.m (Jm (bas (pck t.n A) S) k λi=>(pck t.n A).b i)=S.b k*Bl.det t.m (bas (pck t.n A) S):=λk u=>Gt (x:=λk=>S.b k) u λi hi=>(Ga y Z hnm hi).2;have k1:∀ k c,k<t.m->c<t.n+t.m->isQ (S.a k c) (fct (t.n+1)) (fct t.n):=λk c u B=>⟨_,_,Jkg h0 y u λi hi=>h0 i c hi B,J,U,by rw[cA k c u B];grind⟩;have k2:∀ k,k<t.m->isQ (S.b k) (fct (t.n+1)) (fct t.n):=λk u=>⟨_,_,Jkg h0 y u i1,J,U,by rw[cB k u];grind⟩;have a1:fct t.n<=fct (t.n+1):=Jzs _;have k3:∀ c,c<t.n+t.m->isQ (S.g c) ((t.n+1)*fct (t.n+1)) (fct t.n):=λc B=>by
  refine⟨(pck t.n A).g c*Bl.det t.m (bas (pck t.n A) S) + -(Jw t.m λk=>(pck t.n A).g (S.β k)*Bl.det t.m (Jm (bas (pck t.n A) S) k λi=>(pck t.n A).a i c)),_,?_,J,U,?_⟩
  .have hg:isI ((pck t.n A).g c) 1:=by
    simp only[pck];split
    .exact⟨-1,rfl,by simp⟩
    exact⟨0,rfl,by simp⟩
   exact((hg.mul J).add (Jpk y λk u=>Jkg h0 y u λi hi=>h0 i c hi B).neg).mono (by rw[Nat.add_mul];omega)
  have h:=Jww y Z B;rw[Ub (g:=λk=>Bl.det t.m (bas (pck t.n A) S)*((pck t.n A).g (S.β k)*S.a k c)) λk u=>by rw[cA k c u B];grind];rw[Gv];grind
 have k4:isQ S.z ((t.n+1)*fct (t.n+1)) (fct t.n):=by
  have O:=Z.val _ (Ul y hnm 0);rw[Jxm y hnm]at O;unfold QT.val at O;rw[Gf y hnm 0 (pck t.n A).g]at O;have e:Jw t.m (λk=>(pck t.n A).g (S.β k)*(S.b k-S.a k 0*0))=Jw t.m λk=>(pck t.n A).g (S.β k)*S.b k:=by congr 1;funext k;grind
  have ez:(pck t.n A).z=0:=rfl;rw[e,ez]at O;refine⟨-(Jw t.m λk=>(pck t.n A).g (S.β k)*Bl.det t.m (Jm (bas (pck t.n A) S) k λi=>(pck t.n A).b i)),_,(Jpk y λk u=>Jkg h0 y u i1).neg.mono (by rw[Nat.add_mul];omega),J,U,?_⟩;rw[Ub (g:=λk=>Bl.det t.m (bas (pck t.n A) S)*((pck t.n A).g (S.β k)*S.b k)) λk u=>by rw[cB k u];grind];rw[Gv];grind
 refine⟨λi j hi hj=>(hn.row i j hi om).le ?_,λj hj=>(hn.goal j om).le ?_⟩
 .by_cases c1:j<t.n+t.m
  .rw[G.a i j hi c1];exact k1 i j hi c1
  by_cases c2:j=t.right
  .rw[c2,G.b i hi];exact k2 i hi
  rw[show j=t.n+t.m by omega,D.row i hi,G.b i hi];exact(k2 i hi).neg
 by_cases c1:j<t.n+t.m
 .rw[G.g j c1];exact k3 j c1
 by_cases c2:j=t.right
 .rw[c2,G.z];exact k4
 rw[show j=t.n+t.m by omega,D.goal,G.z];exact k4.neg
namespace Nw
variable {n p x:Nat}
theorem Jbx(z x:Int)(hz:0<=z)(hx:0<=x): ∀ n:Nat,((n:Int)+1)*z*x^n<=z^(n+1)+n*x^(n+1)
 | 0=>by simp[Int.pow_succ]
 | n+1=>by
  have ih:=Jbx z x hz hx n;have h1:z*(((n:Int)+1)*z*x^n)<=z*(z^(n+1)+n*x^(n+1)):=Int.mul_le_mul_of_nonneg_left ih hz;have h2:0<=((n:Int)+1)*x^n*((x-z)*(x-z)):=Int.mul_nonneg (Int.mul_nonneg om (Int.pow_nonneg hx)) (by
   rcases Int.le_total 0 (x-z) with h|h
   .exact Int.mul_nonneg h h
   have:=Int.mul_nonneg (show 0<=-(x-z) by omega) (show 0<=-(x-z) by omega);rwa [Int.neg_mul_neg]at this)
  have e:z^(n+1+1)+((n+1:Nat):Int)*x^(n+1+1)-(((n+1:Nat):Int)+1)*z*x^(n+1)=(z*(z^(n+1)+n*x^(n+1))-z*(((n:Int)+1)*z*x^n))+((n:Int)+1)*x^n*((x-z)*(x-z)):=by
   rw[Int.natCast_add];grind
  omega
def Ib(p n x:Nat): Prop:=x^n<=p/\p<(x+1)^n
theorem Jfl{y:Nat}(hx:Ib p n x)(hy:Ib p n y): x=y:=by
 rcases Nat.lt_trichotomy x y with h|h|h
 .have:=Nat.pow_le_pow_left (show x+1<=y by omega) n;have:=hx.2;have:=hy.1;omega
 .exact h
 have:=Nat.pow_le_pow_left (show y+1<=x by omega) n;have:=hy.2;have:=hx.1;omega
def step(p n x:Nat): Nat:=((n-1)*x+p / x^(n-1)) / n
theorem Jdk(hn:0<n)(hx:0<x): p<(step p n x+1)^n:=by
 obtain⟨k,rfl⟩:∃ k,n=k+1:=⟨n-1,om⟩;simp only[step,Nat.add_sub_cancel];generalize hq:p / x^k=q
 generalize hy:(k*x+q) / (k+1)=y
 have i:0<x^k:=Nat.pow_pos hx;have J:p<(q+1)*x^k:=by
  have:=Nat.div_add_mod p (x^k);have:=Nat.mod_lt p i;rw[hq]at *;grind
 have G:k*x+q+1<=(k+1)*(y+1):=by
  have:=Nat.div_add_mod (k*x+q) (k+1);have:=Nat.mod_lt (k*x+q) (show 0<k+1 by omega);rw[hy]at *;grind
 have j:=Jbx ((y+1:Nat):Int) (x:Int) om om k;have D:(((q+1)*x^k+k*x^(k+1):Nat):Int)<=(((k+1)*(y+1)*x^k:Nat):Int):=by
  have:=nO (x^k) G;have e:(k*x+q+1)*x^k=(q+1)*x^k+k*x^(k+1):=by grind
  rw[e]at this;exact Int.ofNat_le.2 this
 have B:(((k+1)*(y+1)*x^k:Nat):Int)=((k:Int)+1)*((y+1:Nat):Int)*(x:Int)^k:=by
  rw[Int.natCast_mul,Int.natCast_mul,Int.natCast_add,Int.natCast_pow];rfl
 have u:(((y+1)^(k+1)+k*x^(k+1):Nat):Int)=((y+1:Nat):Int)^(k+1)+(k:Int)*(x:Int)^(k+1):=by
  rw[Int.natCast_add,Int.natCast_mul,Int.natCast_pow,Int.natCast_pow]
 rw[<-B,<-u]at j;have:=Int.ofNat_le.1 (Int.le_trans D j);omega
theorem Jtn(hn:0<n)(hx:0<x)(h:x<=step p n x): x^n<=p:=by
 obtain⟨k,rfl⟩:∃ k,n=k+1:=⟨n-1,om⟩;simp only[step,Nat.add_sub_cancel]at h;have j:x*(k+1)<=k*x+p / x^k:=(Nat.le_div_iff_mul_le om).1 h;have i:x<=p / x^k:=by grind
 have:=(Nat.le_div_iff_mul_le (Nat.pow_pos hx)).1 i;rw[Nat.pow_succ];grind
theorem Jtp(hn:1<n)(hp:0<p)(hx:0<x): 0<step p n x:=by
 have h:=Jdk (p:=p) (n:=n) om hx;rcases Nat.eq_zero_or_pos (step p n x) with h0|h0
 .rw[h0,Nat.zero_add,Nat.one_pow]at h;omega
 exact h0
end Nw
open Go.RowKit Pl Go.Wk
attribute [local irreducible] WC WL QX WD WDB WP WN WG WH
variable {b2 m n:Nat}{q:PR}{a p u v y:Value}{w w' w1:World}
def RtX(N:Nat->Prop)(w:World)(v:Value)(q:PR): Prop:=∃ x y,v=.agg #[.bool q.neg,x,y]/\NatX N w x q.num/\NatX N w y q.den
def RtC(N:Nat->Prop)(w:World)(cs:List Value)(q:PR): Prop:=∃ x y,cs=[.bool q.neg,x,y]/\NatX N w x q.num/\NatX N w y q.den
section
variable {N N':Nat->Prop} {w w':World} {v:Value} {cs:List Value} {q:PR}
theorem RtX.gr(h:RtX N w v q)(hg:GrN N w w'): RtX N w' v q:=by
 obtain⟨x,y,e,j,i⟩:=h;exact⟨x,y,e,j.gr hg,i.gr hg⟩
theorem RtX.ext(h:RtX N w v q)(hx:Ext w w'): RtX N w' v q:=h.gr (GrN.ext hx)
theorem RtX.old(h:RtX N w v q)(hN:∀ k,N' k->N k∨w.heap.size<=k): RtX N' w v q:=by
 obtain⟨x,y,e,j,i⟩:=h;exact⟨x,y,e,j.old hN,i.old hN⟩
theorem RtC.sta: Sta RtC:=⟨λh u=>by
 obtain⟨x,y,e,j,i⟩:=h;exact⟨x,y,e,j.gr u,i.gr u⟩,λh B=>by
 obtain⟨x,y,e,j,i⟩:=h;exact⟨x,y,e,j.old B,i.old B⟩⟩
theorem RtX.c(h:RtX N w v q): ∃ cs,v=.agg cs.toArray/\RtC N w cs q:=by
 obtain⟨x,y,e,j,i⟩:=h;exact⟨_,e,x,y,rfl,j,i⟩
theorem RtC.x(h:RtC N w cs q): RtX N w (.agg cs.toArray) q:=by
 obtain⟨x,y,rfl,j,i⟩:=h;exact⟨x,y,rfl,j,i⟩
end
theorem Qwn(h:n≠0): Jk n=32*((Jj n).length-1)+Jk ((Jj n).getD ((Jj n).length-1) 0).toNat:=by
 obtain⟨l,c,y,J⟩:=Jhr h;have Z:c.toNat≠0:=λe=>J (UInt32.toNat_inj.1 e);have j:=Xt n;rw[y,Yf]at j;simp only[Pl.val,Nat.mul_zero,Nat.add_zero]at j;have i:=Ip l;have B:4294967296^l.length=2^(32*l.length):=by rw[Nat.pow_mul]
 rw[B]at j i;have D:0<2^(32*l.length):=Nat.two_pow_pos _;have U:(Jj n).length-1=l.length:=by rw[y];simp
 have O:(Jj n).getD l.length 0=c:=by rw[y];simp[List.getD]
 rw[U,O];have u:2^(32*l.length)<=n:=by
  have:=Nat.mul_le_mul_left (2^(32*l.length)) (show 1<=c.toNat by omega);omega
 have G:n / 2^(32*l.length)=c.toNat:=by
  rw[<-j,Nat.add_mul_div_left _ _ D,Nat.div_eq_of_lt i,Nat.zero_add]
 rw[Ka u,G]
theorem Vm(hv:NatV w v n)(hs:(Jj n).length<=1000): Ret Tryz.prog 110 [v] w λr w'=>r=.int .i64 (Jk n:Int)/\w'=w:=by
 refine Jz Tryz.func110 Tryz.ntmps110 rfl kr rfl ?_;refine ρ ?_;refine cl (Xe hv) ?_;rintro u w' ⟨⟨A,rfl,i⟩,rfl⟩;refine ρ ?_;refine ci (λh=>?_) (λh=>?_)
 .have h0:n=0:=by
   have:=oT h;rcases Nat.eq_zero_or_pos n with h1|h1
   .exact h1
   have:=limbs_pos' (n:=n) om;omega
  subst h0;refine ρ ?_;exact Jq ⟨rfl,rfl⟩
 have j:0<(Jj n).length:=by
  have:=oF h;omega
 have h0:n≠0:=Jhq j;refine ρ ?_;refine ix ((Jj n).length-1) i om ?_;refine ρ ?_;refine ld (i.cell (Qh (show(Jj n).length-1<(Jj n).length by omega))) ?_;refine ρ ?_;refine cl (Qwr _ (UInt32.toNat_lt _) w') ?_;rintro _ w1 ⟨rfl,rfl⟩;have:=Vp (x:=((Jj n).getD ((Jj n).length-1) 0).toNat) (k:=32) (UInt32.toNat_lt _);refine ρ ?_;refine Jq ⟨congrArg (Value.int .i64) ?_,rfl⟩;rw[Qwn h0];omega
abbrev Ol(w:World): Nat->Prop:=λk=>k<w.heap.size
theorem NatX.ol(h:NatX (Ol w1) w' v n)(hx:Ext w w1): NatX (Ol w) w' v n:=h.old λk i=>.inl (nM i hx.size)
theorem RtX.ol(h:RtX (Ol w1) w' v q)(hx:Ext w w1): RtX (Ol w) w' v q:=h.old λk i=>.inl (nM i hx.size)
theorem Fresh.o(h:Fresh w v)(hn:NatV w' v n): NatX (Ol w) w' v n:=h.x hn λ_ i=>i
theorem NatV.one(h:NatV w v n): v.oneCell'=true:=by obtain⟨A,c,rfl,_⟩:=h;rfl
def SF.nx(N:Nat->Prop)(n:Nat): SF:=⟨λv w=>NatX N w v n,λh hx=>h.ext hx⟩
theorem Xb(n:Nat)(h:n<18446744073709551616)(w:World): Ret Tryz.prog 21 [.int .u64 (n:Int)] w λv w'=>NatX (Ol w) w' v n/\Ext w w':=by
 refine Jz Tryz.func21 Tryz.ntmps21 rfl kr rfl ?_;refine ρ ?_;refine Vq rfl rfl (by decide) rfl ?_;refine ρ ?_;refine bsl (bsN _ _) ?_;intro w1 b j y i;rw[Vu,u32hi]at i;have u:Rd w1 1 (some ⟨b,0,none⟩) 2 (Nc [UInt32.ofNat n,UInt32.ofNat (n / 4294967296)]):=i.rd rfl;refine ρ ?_;refine cl (Gx (l:=[UInt32.ofNat n,UInt32.ofNat (n / 4294967296)]) (c:=2) u (Nat.le_refl _) (by simp)) ?_;rintro v w2 ⟨rfl,rfl⟩;have:=Ie u (by simp);rw[Jsh n h]at this ⊢;refine ρ ?_;exact Jq ⟨⟨this,λ_ D _ _ e B=>by grind⟩,j⟩
theorem Ks(hv:NatV w v n)(hu:NatV w u m)(hn:(Jj n).length<=1000)(h0:0<m)(hm:m<4294967296):
  Ret Tryz.prog 102 [v,u] w λr w'=>(∃ x y,r=.tuple #[x,y,.int .i64 0]/\NatX (Ol w) w' x (n / m)/\NatX (Ol w) w' y (n % m))/\Ext w w':=by
 have J:Jj m=[UInt32.ofNat m]:=Jyb om hm;refine Jz Tryz.func102 Tryz.ntmps102 rfl kr rfl ?_;refine ρ ?_;refine cl (Xe hv) ?_;rintro v' w' ⟨⟨A,rfl,ha⟩,rfl⟩;refine ρ ?_;refine cl (Xe hu) ?_;rintro u' D ⟨⟨B,rfl,hb⟩,rfl⟩;rw[J]at hb ⊢;refine ρ ?_;refine cl (Jzb (n:=n) (m:=m) ⟨A,_,rfl,Nat.le_refl _,om,ha⟩ ⟨B,1,by rw[J],by rw[J];simp,by rw[J];simp,by rw[J];exact hb⟩) ?_;rintro t w' ⟨rfl,i⟩;refine ρ ?_;refine ci (λh=>?_) (λh=>?_)
 .have a1:n<m:=by
   have:=oT h;unfold Vc at this;grind
  refine ρ ?_;refine cl (Jzz (ha.ext i) (Jqg _) om) ?_;rintro v' w1 ⟨ho,hx⟩;obtain⟨A',c',rfl,hc,hf⟩:=Jf ho;refine ρ ?_;refine fin3 ⟨⟨.slice none 0 0,_,rfl,?_,?_⟩,i.trans hx⟩
  .rw[Nat.div_eq_of_lt a1];exact NatX.nil _
  rw[Nat.mod_eq_of_lt a1];exact⟨⟨A',c',rfl,hc,om,Rd.own ho⟩,λ_ ad m c e hk=>by
   injection e with e1 e2 e3
   subst e1;have:=(hf ad.block rfl).1;have:=i.size;have a5:ad.block<D.heap.size:=hk;omega⟩
 refine ρ ?_;refine cl (Jzz (ha.ext i) (Jqg _) om) ?_;rintro q w1 ⟨ho,Z⟩;obtain⟨A',c',rfl,hc,hf⟩:=Jf ho;have a2:=(hb.ext i).ext Z;refine ρ ?_;refine ix 0 a2 (by simp) ?_;refine ρ ?_;refine ld (a2.cell (Qh (l:=[UInt32.ofNat m]) (k:=0) (by simp))) ?_;have em:(([UInt32.ofNat m].getD 0 0).toNat:Int)=(m:Int):=by grind [UInt32.ofNat,UInt32.toNat_ofNat',Nat.mod_eq_of_lt]
 rw[em];refine ρ ?_;refine cl (Jmt rfl om ho h0 hm) ?_;rintro r w2 ⟨rfl,⟨os,a3,j,a4⟩,hg2⟩;rw[Xt]at j ⊢;have U:Ext D w2:=Jt (i.trans Z) hg2 (λk e=>nL i.size (hf k e).1);have G:=Rd.own a4;rw[<-a3]at G hc ⊢;refine ρ ?_;refine cl (Gx G hc om) ?_;rintro t w3 ⟨rfl,rfl⟩;have:=Ie G om;rw[j]at this ⊢;have hr:n % m<m:=Nat.mod_lt _ h0;refine ρ ?_;rw[Vo om];refine cl (Xb (n % m) om _) ?_;rintro y w4 ⟨hy,O⟩;refine ρ ?_;refine fin3 ⟨⟨_,y,rfl,⟨this.ext O,λ_ ad m c e hk=>?_⟩,hy.ol U⟩,U.trans O⟩;injection e with e1 e2 e3
 subst e1;have:=(hf ad.block rfl).1;have:=i.size;have a5:ad.block<D.heap.size:=hk;omega
theorem Zy: Qm Tryz.prog 58=some (.agg #[.bool false,.slice none 0 0,.slice none 0 0]):=kr
theorem NatV.sl(h:NatV w v n): ∃ A c,v=.slice A (Jj n).length c:=by obtain⟨A,c,e,_⟩:=h;exact⟨A,c,e⟩
theorem Vs(b:Bool)(A B:Option Addr)(m c m' c':Nat)(w:World): (Instr.build 58 #[(0,.bool b),(1,.slice A m c),(2,.slice B m' c')]).run Tryz.prog w=.ok (.agg #[.bool b,.slice A m c,.slice B m' c']) w:=kr
theorem zFnN: Qm Tryz.prog 70=some .nilFunc:=kr
theorem Qvz{x:Value}(hx:NatV w x n)(hy:NatV w y m)(hn:n<18446744073709551616)(hm:m<18446744073709551616)(h0:0<m):
  Ret Tryz.prog 193 [x,y,p] w λr w'=>NatX (Ol w) w' r (Nat.gcd n m)/\Ext w w':=by
 have ln:=Qk hn;have lm:=Qk hm;have hb:=(Ua (x:=m) om).1;refine Jz Tryz.func193 Tryz.ntmps193 rfl kr rfl ?_;refine ρ ?_;refine cl (Vm hy om) ?_;rintro _ w ⟨rfl,rfl⟩;refine ρ ?_;refine cf ?_ ?_
 .simp;omega
 refine ρ ?_;refine cl (Jvp hx hn) ?_;rintro _ w ⟨rfl,rfl⟩;refine ρ ?_;refine cl (Jvp hy hm) ?_;rintro _ w ⟨rfl,rfl⟩;refine ρ ?_;refine Qq (fun (a b:Nat)=>[(0,x),(1,y),(2,p),(6,.int .u64 (a:Int)),(8,.int .u64 (b:Int))]) (λa b w'=>Ext w w'/\a<18446744073709551616/\b<18446744073709551616/\Nat.gcd a b=Nat.gcd n m) (λ_ b=>b) n m sB ⟨Ext.refl _,hn,hm,rfl⟩ ?_;rintro a b w2 ⟨i,U,J,D⟩;refine ρ ?_;refine ci (λh=>?_) (λh=>?_)
 .have j:b≠0:=by intro e;subst e;simp at h
  clear h;have u:Ext w2 w2.drew:=(Ext.refl w2).drew;have G:(b:Int)≠0:=om
  refine ρ ?_;refine dr [(0,0),(0,1),(0,2),(0,3),(0,4),(0,5)] kr ?_;refine ρd ?_;refine drem G ?_;refine ρd ?_;refine ρ ?_;refine Ja b (a % b) ?_ ⟨i.trans u,J,Nat.lt_of_lt_of_le (Nat.mod_lt _ om) om,by rw[<-D,Nat.gcd_comm a b,Nat.gcd_rec b a];exact Nat.gcd_comm _ _⟩ (Nat.mod_lt _ om);have Z:(a:Int).tmod b=((a % b:Nat):Int):=rfl;rw[Z];exact sO
 have j:b=0:=by
  rcases Nat.eq_zero_or_pos b with h1|h1
  .exact h1
  simp at h;omega
 subst j;rw[Nat.gcd_zero_right]at D;subst D;refine ρ ?_;refine cl (Xb _ U w2) ?_;rintro r w3 ⟨O,B⟩;refine ρ ?_;exact Jq ⟨O.ol i,i.trans B⟩
theorem Qcn{x:Value}(hx:NatV w x n)(hy:NatV w y m)(hn:n<18446744073709551616)(hm:m<18446744073709551616)(h0:0<m):
  Ret Tryz.prog 166 [x,y] w λr w'=>NatX (Ol w) w' r (Nat.gcd n m)/\Ext w w':=by
 have lm:=Qk hm;have hl:Jk m<=64:=Vp hm;refine Jz Tryz.func166 Tryz.ntmps166 rfl kr rfl ?_;refine ρ ?_;refine alc zFnN ?_;intro w1 b B J O;refine ρ ?_;refine stb1 O ?_ rfl;intro w2 D hg2 j;have j:Ext w w2:=j w B J;refine ρ ?_;refine Jp (fun (_:Unit)=>[(0,x),(1,y),(5,.pointer (some ⟨b,0,none⟩))]) (λ_ w'=>w'=w2) (λ_=>0) () sB rfl ?_;rintro _ w3 rfl;refine ρ ?_;refine cl (Vm (hy.ext j) om) ?_;rintro _ Z ⟨rfl,rfl⟩;refine ρ ?_;refine cf ?_ ?_
 .exact dF om
 refine ρ ?_;refine ld (D.at (i:=0) rfl) ?_;refine ρ ?_;refine clv (Qvz (p:=.pointer (some ⟨b,0,none⟩)) (hx.ext j) (hy.ext j) hn hm h0) ?_;rintro r U ⟨G,u⟩;refine ρ ?_;exact Jq ⟨G.ol j,j.trans u⟩
theorem len0: (((Jj n).length:Int) == 0)=decide (n=0):=by
 by_cases h:n=0
 .subst h;rw[limbs_0];rfl
 have:=limbs_pos' h;rw[decide_eq_false h];exact beq_eq_false_iff_ne.2 om
theorem Js{b c:Value}{x:Bool}(ha:a=.bool x)(hb:b.oneCell'=true)(hc:c.oneCell'=true): ∀ u∈[a,b,c],u.oneCell'=true:=λu i=>by
 simp only[List.mem_cons,List.not_mem_nil,or_false]at i;rcases i with rfl|rfl|rfl
 .rw[ha];rfl
 .exact hb
 exact hc
theorem RtX.out{w2 w4 w5:World}{x:Value}{b:Bool}(hx:NatX (Ol w2) w4 x q.num)(hy:NatX (Ol w2) w4 y q.den)(hg:w4.grownBy w5 (some b2))(hb:b2<w2.heap.size)(hxw:Ext w w2)(e:b=q.neg): RtX (Ol w) w5 (.agg #[.bool b,x,y]) q:=by
 have i:GrN (Ol w2) w4 w5:=GrN.by hg λk j=>by injection j with j;subst j;exact hb
 exact⟨x,y,by rw[e],(hx.gr i).ol hxw,(hy.gr i).ol hxw⟩
theorem Qvx(h:0<m): 0<Nat.gcd n m:=Nat.gcd_pos_of_pos_right _ h
theorem Xo{N:Nat->Prop}(hv:RtX N w v q)(hn:q.num<18446744073709551616)(hd:q.den<4294967296):
  Ret Tryz.prog 101 [v] w λr w'=>RtX (Ol w) w' r q.norm/\Ext w w':=by
 obtain⟨x,y,rfl,⟨hx,_⟩,⟨hy,_⟩⟩:=hv;have ln:=Qk hn;have ak:=Qk (n:=q.den) om;refine Jz Tryz.func101 Tryz.ntmps101 rfl kr rfl ?_;refine ρ ?_;refine bx ?_;intro w1 b1 a5 av a6;refine ρ ?_;refine alc Zy ?_;intro w2 b2 aa au a3;have ah:=a3;have J:=a5.trans aa;have a4:Ext w2 w2.drew:=(Ext.refl w2).drew;have a9:=(a6.ext aa).ext a4;refine ρ ?_;refine drH (λ_=>false) ?_;refine Vy (fuel':=4) 14 [(0,0),(0,1),(0,3),(0,4)] #[true,true,false,true,true,false,false,false] kr kr rfl ?_;refine ρd ?_;refine dld (a9.at (i:=1) rfl) ?_;refine ρd ?_;refine dld (a9.at (i:=2) rfl) ?_;refine ρd ?_;refine Zw ?_;refine hmkS 14 2 _ #[true,true,true,true,true,true,false,false] [2,5] [8,11] [SF.nx (Ol w2) q.num,SF.nx (Ol w2) q.den] kr (by rfl) ?_ ?_
 .refine gsc (λvs v1 a7 hd=>?_) ?_
  .simp only[slM];refine cl (Jhc (hx.ext ((J.trans a4).trans a7)) om) ?_;rintro u v2 ⟨h1,h2,h3⟩;exact Jr (Qr h3 ((h2.o h1).ol (a4.trans a7)))
  refine gsc (λvs v1 a7 hd=>?_) gse
  simp only[slM];refine cl (Jhc (hy.ext ((J.trans a4).trans a7)) om) ?_;rintro u v2 ⟨h1,h2,h3⟩;exact Jr (Qr h3 ((h2.o h1).ol (a4.trans a7)))
 intro vs w3 ai hd;have hX:NatX (Ol w2) w3 (vs 0) q.num:=hd 0;have hY:NatX (Ol w2) w3 (vs 1) q.den:=hd 1;simp only[slM];generalize vs 0=x3 at *
 generalize vs 1=y3 at *
 refine Vy (fuel':=0) 14 [(0,6),(0,7)] #[true,true,true,true,true,true,true,true] kr kr rfl ?_;refine ρd ?_;refine Zw ?_;refine Xn kr ?_;have G:=a4.trans ai;have a2:=J.trans G;have a6:=(a6.ext aa).ext G;have a3:=a3.ext G;obtain⟨A,c,ex,ar,aq,ap⟩:=id hX.1;obtain⟨B,d,ey,a8,ao,an⟩:=id hY.1;subst ex;subst ey;refine ρ ?_;have U:=ah.lt;rw[len0];refine Go.Wk.ki 15 (λh=>?_) (λh=>?_)
 .have hz:=oT h;clear h;refine ρ ?_;refine ld (a6.at (i:=0) rfl) ?_;refine ρ ?_;have hq:q.norm=⟨false,q.num,1⟩:=by unfold PR.norm;rw[if_pos (.inl hz),hz];simp
  refine Go.Wk.ki 22 (λhs=>?_) (λhs=>?_)
  .refine ρ ?_;refine Go.Wk.kv 26 (u:=.bool false) (congrArg Value.bool ?_) ?_
   .exact dF (by rw[hz,limbs_0];simp)
   refine ρ ?_;refine cl (Xb 1 (by decide) _) ?_;rintro o w4 ⟨ho,j⟩;obtain⟨O,oc,rfl⟩:=ho.1.sl;refine ρ ?_;refine bld (Vs _ _ _ _ _ _ _ _) ?_;refine ρ ?_;refine stb (cs':=[.bool false,.slice A (Jj q.num).length c,.slice O (Jj 1).length oc]) (a3.ext j) ?_ (Js rfl rfl ho.1.one);intro w5 a1 Z D;refine ρ ?_;refine Zn a1 ⟨?_,D w (a2.trans j) (by have:=a5.size;omega)⟩;rw[hq];exact RtX.out (hX.ext j) (ho.ol G) Z U J rfl
  refine ρ ?_;refine cl (Xb 1 (by decide) _) ?_;rintro o w4 ⟨ho,j⟩;obtain⟨O,oc,rfl⟩:=ho.1.sl;refine ρ ?_;refine bld (Vs _ _ _ _ _ _ _ _) ?_;refine ρ ?_;refine stb (cs':=[.bool false,.slice A (Jj q.num).length c,.slice O (Jj 1).length oc]) (a3.ext j) ?_ (Js rfl rfl ho.1.one);intro w5 a1 Z D;refine ρ ?_;refine Zn a1 ⟨?_,D w (a2.trans j) (by have:=a5.size;omega)⟩;rw[hq];exact RtX.out (hX.ext j) (ho.ol G) Z U J rfl
 have hz:=oF h;clear h;refine ρ ?_;rw[len0];refine ci (λh=>?_) (λh=>?_)
 .have ae:=oT h;clear h;refine ρ ?_;refine ld (a6.at (i:=0) rfl) ?_;refine ρ ?_;have hq:q.norm=⟨q.neg,q.num,1⟩:=by unfold PR.norm;rw[if_pos (.inr ae)];simp[hz]
  refine Go.Wk.ki 22 (λhs=>?_) (λhs=>?_)
  .refine ρ ?_;refine Go.Wk.kv 26 (u:=.bool true) (congrArg Value.bool ?_) ?_
   .exact decide_eq_true (by have:=limbs_pos' hz;omega)
   refine ρ ?_;refine cl (Xb 1 (by decide) _) ?_;rintro o w4 ⟨ho,j⟩;obtain⟨O,oc,rfl⟩:=ho.1.sl;refine ρ ?_;refine bld (Vs _ _ _ _ _ _ _ _) ?_;refine ρ ?_;refine stb (cs':=[.bool true,.slice A (Jj q.num).length c,.slice O (Jj 1).length oc]) (a3.ext j) ?_ (Js rfl rfl ho.1.one);intro w5 a1 Z D;refine ρ ?_;refine Zn a1 ⟨?_,D w (a2.trans j) (by have:=a5.size;omega)⟩;rw[hq];exact RtX.out (hX.ext j) (ho.ol G) Z U J hs.symm
  refine ρ ?_;refine cl (Xb 1 (by decide) _) ?_;rintro o w4 ⟨ho,j⟩;obtain⟨O,oc,rfl⟩:=ho.1.sl;refine ρ ?_;refine bld (Vs _ _ _ _ _ _ _ _) ?_;refine ρ ?_;refine stb (cs':=[.bool false,.slice A (Jj q.num).length c,.slice O (Jj 1).length oc]) (a3.ext j) ?_ (Js rfl rfl ho.1.one);intro w5 a1 Z D;refine ρ ?_;refine Zn a1 ⟨?_,D w (a2.trans j) (by have:=a5.size;omega)⟩;rw[hq];exact RtX.out (hX.ext j) (ho.ol G) Z U J hs.symm
 have ae:=oF h;clear h;have hq:q.norm=⟨q.neg,q.num / Nat.gcd q.num q.den,q.den / Nat.gcd q.num q.den⟩:=by unfold PR.norm;rw[if_neg om]
 have aj:=Vp (x:=q.den) (k:=32) om;refine ρ ?_;refine cl (Vm hY.1 om) ?_;rintro _ w3 ⟨rfl,rfl⟩;refine ρ ?_;refine Gq (fun (x5 y5:Value)=>[(1,.pointer (some ⟨b1,0,none⟩)),(2,.pointer (some ⟨b2,0,none⟩)),(3,x5),(4,y5)])
  (λx5 y5 w'=>Ext w3 w'/\NatX (Ol w2) w' x5 (q.num / Nat.gcd q.num q.den)/\NatX (Ol w2) w' y5 (q.den / Nat.gcd q.num q.den)) ?_ ?_
 .refine ci (λh=>?_) (λh=>?_)
  .clear h;refine ρ ?_;refine cl (Qcn hX.1 hY.1 hn om om) ?_;rintro g w4 ⟨hg,j⟩;have ag:0<Nat.gcd q.num q.den:=Qvx om;have am:Nat.gcd q.num q.den<=q.den:=Nat.le_of_dvd om (Nat.gcd_dvd_right _ _);have ab:=Vp (x:=Nat.gcd q.num q.den) (k:=32) om;refine ρ ?_;refine cl (Vm hg.1 (by have:=Qk (n:=Nat.gcd q.num q.den) om;omega)) ?_;rintro _ w4 ⟨rfl,rfl⟩;refine ρ ?_;refine ci (λh=>?_) (λh=>?_)
   .clear h;refine ρ ?_;refine cl (Ks (hX.ext j).1 hg.1 om ag om) ?_;rintro _ w5 ⟨⟨a,r,rfl,ha,_⟩,D⟩;refine ρ ?_;refine cl (Ks ((hY.ext j).ext D).1 (hg.ext D).1 om ag om) ?_;rintro _ w6 ⟨⟨b,r2,rfl,hb,_⟩,af⟩;refine ρ ?_;exact Zz a b sB ⟨(j.trans D).trans af,(ha.ol (G.trans j)).ext af,hb.ol ((G.trans j).trans D)⟩
   have h1:=oF h;have ab:Nat.gcd q.num q.den=1:=by
    have:=Yy (x:=Nat.gcd q.num q.den);have h2:2^Jk (Nat.gcd q.num q.den)<=2^1:=Nat.pow_le_pow_right (by decide) om;omega
   refine ρ ?_;refine Zz _ _ sB ⟨j,?_,?_⟩
   .rw[ab,Nat.div_one];exact hX.ext j
   rw[ab,Nat.div_one];exact hY.ext j
  have h1:=oF h;have a8:q.den=1:=by
   have:=Yy (x:=q.den);have h2:2^Jk q.den<=2^1:=Nat.pow_le_pow_right (by decide) om;omega
  refine ρ ?_;refine Zz _ _ sB ⟨Ext.refl _,?_,?_⟩
  .rw[a8,Nat.gcd_one_right,Nat.div_one];exact hX
  rw[a8,Nat.gcd_one_right,Nat.div_one,<-a8];exact hY
 rintro x5 y5 w4 ⟨j,ad,ac⟩;obtain⟨X5,xc,rfl⟩:=ad.1.sl;obtain⟨Y5,yc,rfl⟩:=ac.1.sl;refine ρ ?_;refine ld ((a6.ext j).at (i:=0) rfl) ?_;refine ρ ?_;refine bld (Vs _ _ _ _ _ _ _ _) ?_;refine ρ ?_;refine stb (cs':=[.bool q.neg,.slice X5 _ xc,.slice Y5 _ yc]) (a3.ext j) ?_ (Js rfl ad.1.one ac.1.one);intro w5 a1 Z D;refine ρ ?_;refine Zn a1 ⟨?_,D w (a2.trans j) (by have:=a5.size;omega)⟩;rw[hq];exact RtX.out ad ac Z U J rfl
end Go.Proofs.YtebiphhfkdbpfaaGreatDoor
namespace Go.Wk
open Go.RowKit
theorem dnbR{P:Program}{n d ty:Nat}{al:AL}{w:World}{ops:Array Oper}{Q:Exit->Act->World->Prop}{drest:List (Nat×Oper)}{pos:String}{aft:Array Edge}{tt:TT}[h:Tab P tt]{t t2:TypeId}{k:TK}{x y:Operand}{p q:Bool}(kk:WD P n ops Q drest ((d,.bool (!(p == q)))::al) w)(ht:tk tt t=some k:=by rfl)(hk:k.desc=.bool:=by rfl)(hx:ev al x=some (.bool p):=by rfl)(hy:ev al y=some (.bool q):=by rfl)(hd:Nat.blt d n=true:=by rfl):
  WD P n ops Q ((0,⟨some d,.binOp .neq t x y t2,ty,pos,aft,none⟩)::drest) al w:=dy (λw' _ a i=>Qjd h.ok ht hk i hx hy (some d) w') hd kk
end Go.Wk
namespace Go.Proofs.YtebiphhfkdbpfaaGreatDoor
open Go.RowKit Pl Go.Wk
attribute [local irreducible] WC WL QX WD WDB WP WN WG WH
variable {B b2 n:Nat}{N N':Nat->Prop}{p q:PR}{u v:Value}{w:World}
theorem bldR2(b:Bool)(A:Option Addr)(m c:Nat)(w:World): (Instr.build 58 #[(0,.bool b),(1,.slice A m c)]).run Tryz.prog w=.ok (.agg #[.bool b,.slice A m c,.slice none 0 0]) w:=kr
theorem bldR1(A:Option Addr)(m c:Nat)(w:World): (Instr.build 58 #[(1,.slice A m c)]).run Tryz.prog w=.ok (.agg #[.bool false,.slice A m c,.slice none 0 0]) w:=kr
theorem RtX.sl{N:Nat->Prop}{w:World}{v:Value}{q:PR}(h:RtX N w v q): ∃ A c B d,v=.agg #[.bool q.neg,.slice A (Jj q.num).length c,.slice B (Jj q.den).length d]/\NatX N w (.slice A (Jj q.num).length c) q.num/\NatX N w (.slice B (Jj q.den).length d) q.den:=by
 obtain⟨x,y,rfl,j,i⟩:=h;obtain⟨A,c,rfl⟩:=j.1.sl;obtain⟨B,d,rfl⟩:=i.1.sl;exact⟨A,c,B,d,rfl,j,i⟩
theorem RtX.box{w2 w4 w5:World}(h:RtX (Ol w2) w4 v q)(hg:w4.grownBy w5 (some b2))(hb:b2<w2.heap.size)(hxw:Ext w w2): RtX (Ol w) w5 v q :=
 (h.gr (GrN.by hg λk i=>by injection i with i;subst i;exact hb)).ol hxw
theorem Qkv(z:Int)(h1:-9223372036854775808<z)(h2:z<9223372036854775808)(w:World): Ret Tryz.prog 158 [.int .i64 z] w λr w'=>NatX (Ol w) w' r z.natAbs/\Ext w w':=by
 refine Jz Tryz.func158 Tryz.ntmps158 rfl kr rfl ?_;refine ρ ?_;refine ci (λh=>?_) (λh=>?_)
 .have y:=oT h;refine ρ ?_;refine Go.Wk.kv 7 (u:=.int .u64 (z.natAbs:Int)) (congrArg (Value.int .u64) ?_) ?_
  .simp only[IntKind.wrap_u64];omega
  refine cl (Xb z.natAbs om w) ?_;rintro r w1 ⟨j,i⟩;refine ρ ?_;exact Jq ⟨j,i⟩
 have y:=oF h;refine ρ ?_;refine Go.Wk.kv 10 (u:=.int .u64 (z.natAbs:Int)) (congrArg (Value.int .u64) ?_) ?_
 .simp only[IntKind.wrap_u64];omega
 refine cl (Xb z.natAbs om w) ?_;rintro r w1 ⟨j,i⟩;refine ρ ?_;exact Jq ⟨j,i⟩
theorem Gd(z:Int)(h1:-9223372036854775808<z)(h2:z<9223372036854775808)(w:World): Ret Tryz.prog 88 [.int .i64 z] w λr w'=>RtX (Ol w) w' r (PR.int z)/\Ext w w':=by
 have hq:PR.norm ⟨decide (z<0),z.natAbs,0⟩=PR.int z:=by
  unfold PR.norm PR.int;rw[if_pos (.inr rfl)];by_cases h:z<0
  .have:z.natAbs≠0:=om
   simp[h,this]
  simp[h]
 refine Jz Tryz.func88 Tryz.ntmps88 rfl kr rfl ?_;refine ρ ?_;refine alc Zy ?_;intro w1 b1 y O B;refine ρ ?_;refine cl (Qkv z h1 h2 w1) ?_;rintro r w2 ⟨Z,i⟩;obtain⟨A,c,rfl⟩:=Z.1.sl;refine ρ ?_;refine bld (bldR2 _ _ _ _ _) ?_;refine ρ ?_;refine cl (Xo (N:=Ol w1) (q:=⟨decide (z<0),z.natAbs,0⟩) ⟨_,_,rfl,Z,NatX.nil _⟩ (by show z.natAbs<_;omega) (show 0<4294967296 by decide)) ?_;rintro u w3 ⟨G,j⟩;rw[hq]at G;obtain⟨A',c',B',d',rfl,a2,a1⟩:=G.sl;refine ρ ?_;refine stb (cs':=[.bool (PR.int z).neg,.slice A' _ c',.slice B' _ d']) ((B.ext i).ext j) ?_ (Js rfl rfl rfl);intro w4 U J D;refine ρ ?_;exact Zn U ⟨(G.ol i).box J B.lt y,D w ((y.trans i).trans j) O⟩
theorem Qqg(hv:NatV w v n)(hn:n<18446744073709551616): Ret Tryz.prog 108 [v] w λr w'=>RtX (Ol w) w' r (PR.norm ⟨false,n,0⟩)/\Ext w w':=by
 obtain⟨A,c,rfl⟩:=hv.sl;refine Jz Tryz.func108 Tryz.ntmps108 rfl kr rfl ?_;refine ρ ?_;refine alc Zy ?_;intro w1 b1 i G y;refine ρ ?_;refine bld (bldR1 _ _ _ _) ?_;refine ρ ?_;refine cl (Xo (N:=λ_=>False) (q:=⟨false,n,0⟩) ⟨_,_,rfl,⟨hv.ext i,λ_ _ _ _ _ h=>h⟩,NatX.nil _⟩ hn (show 0<4294967296 by decide)) ?_;rintro u w3 ⟨O,j⟩;obtain⟨A',c',B',d',rfl,Z,U⟩:=O.sl;refine ρ ?_;refine stb (cs':=[.bool (PR.norm ⟨false,n,0⟩).neg,.slice A' _ c',.slice B' _ d']) (y.ext j) ?_ (Js rfl rfl rfl);intro w4 J D B;refine ρ ?_;exact Zn J ⟨O.box D y.lt i,B w (i.trans j) G⟩
theorem Jfn(hv:RtX N w v q)(hn:q.num<18446744073709551616)(hd:q.den<4294967296): Ret Tryz.prog 163 [v] w λr w'=>RtX (Ol w) w' r q.opp/\Ext w w':=by
 obtain⟨A,c,B,d,rfl,hA,hB⟩:=hv.sl;refine Jz Tryz.func163 Tryz.ntmps163 rfl kr rfl ?_;refine ρ ?_;refine bx ?_;intro w1 b1 J a5 y;refine ρ ?_;refine alc Zy ?_;intro w2 b2 G a1 O;have y:=y.ext G;refine ρ ?_;refine ld (y.at (i:=0) rfl) ?_;refine ρ ?_;refine ld (y.at (i:=1) rfl) ?_;refine ρ ?_;refine ld (y.at (i:=2) rfl) ?_;refine ρ ?_;refine bld (Vs _ _ _ _ _ _ _ _) ?_;refine ρ ?_;have j:=J.trans G;refine cl (Xo (N:=N) (q:=⟨!q.neg,q.num,q.den⟩) ⟨_,_,rfl,hA.ext j,hB.ext j⟩ hn hd) ?_;rintro u w3 ⟨hu,D⟩;obtain⟨A',c',B',d',rfl,a4,a3⟩:=hu.sl;refine ρ ?_;refine stb (cs':=[.bool (PR.norm ⟨!q.neg,q.num,q.den⟩).neg,.slice A' _ c',.slice B' _ d']) (O.ext D) ?_ (Js rfl rfl rfl);intro w4 a2 Z U;refine ρ ?_;exact Zn a2 ⟨hu.box Z O.lt j,U w (j.trans D) (nL J.size a1)⟩
theorem Ym(hv:RtX N w v q)(hn:(Jj q.num).length<=1000): Ret Tryz.prog 98 [v] w λr w'=>r=.int .i64 q.sign/\Ext w w':=by
 obtain⟨A,c,B,d,rfl,G,J⟩:=hv.sl;refine Jz Tryz.func98 Tryz.ntmps98 rfl kr rfl ?_;refine ρ ?_;refine bx ?_;intro w1 O j D u;refine ρ ?_;refine ld (u.at (i:=1) rfl) ?_;refine ρ ?_;refine cl (Vm (G.1.ext j) hn) ?_;rintro _ w1 ⟨rfl,rfl⟩;refine ρ ?_;refine ci (λh=>?_) (λh=>?_)
 .have h0:q.num=0:=by
   rcases Nat.eq_zero_or_pos q.num with h1|h1
   .exact h1
   have:=(Ua (x:=q.num) om).1;have:=eq_of_beq h;omega
  refine ρ ?_;exact Jq ⟨by unfold PR.sign;rw[if_pos h0],j⟩
 have h0:q.num≠0:=λe=>by rw[e]at h;simp[Jk]at h
 refine ρ ?_;refine ld (u.at (i:=0) rfl) ?_;refine ρ ?_;refine ci (λy=>?_) (λy=>?_)
 .refine ρ ?_;exact Jq ⟨by unfold PR.sign;rw[if_neg h0,if_pos y],j⟩
 refine ρ ?_;exact Jq ⟨by unfold PR.sign;rw[if_neg h0,if_neg (by rw[y];decide)],j⟩
theorem Jfp(hv:RtX N w v q)(hN:∀ k,N k->k<w.heap.size)(hn:(Jj q.den).length<=1000): Ret Tryz.prog 190 [v] w λr w'=>NatX N w' r q.dvs/\Ext w w':=by
 obtain⟨A,c,B,d,rfl,U,D⟩:=hv.sl;refine Jz Tryz.func190 Tryz.ntmps190 rfl kr rfl ?_;refine ρ ?_;refine bx ?_;intro w1 Z j O u;refine ρ ?_;refine ld (u.at (i:=2) rfl) ?_;refine ρ ?_;refine cl (Vm (D.1.ext j) hn) ?_;rintro _ w1 ⟨rfl,rfl⟩;refine ρ ?_;refine ci (λh=>?_) (λh=>?_)
 .have h0:q.den=0:=by
   rcases Nat.eq_zero_or_pos q.den with h1|h1
   .exact h1
   have:=(Ua (x:=q.den) om).1;have:=eq_of_beq h;omega
  refine ρ ?_;refine cl (Xb 1 (by decide) _) ?_;rintro o w2 ⟨G,y⟩;refine ρ ?_;refine Jq ⟨?_,j.trans y⟩;unfold PR.dvs;rw[if_pos h0];exact(G.ol j).old λk J=>.inl (hN k J)
 have h0:q.den≠0:=λe=>by rw[e]at h;simp[Jk]at h
 refine ρ ?_;refine ld (u.at (i:=2) rfl) ?_;refine ρ ?_;refine Jq ⟨?_,j⟩;unfold PR.dvs;rw[if_neg h0];exact D.ext j
theorem Jxw(h:q.num<B)(h2:1<B): q.norm.num<B:=by
 unfold PR.norm;split
 .exact h
 exact nN (Nat.div_le_self _ _) h
theorem Jxv(h:q.den<B)(h2:1<B): q.norm.den<B:=by
 unfold PR.norm;split
 .exact h2
 exact nN (Nat.div_le_self _ _) h
def SF.rx(N:Nat->Prop)(q:PR): SF:=⟨λv w=>RtX N w v q,λh hx=>h.ext hx⟩
theorem Jwx(hv:RtX N w v p)(hu:RtX N' w u q)(h1:p.num<4294967296)(h2:p.den<4294967296)(h3:q.num<4294967296)(h4:q.den<4294967296)(h5:p.norm.den*q.norm.den<4294967296):
  Ret Tryz.prog 107 [v,u] w λr w'=>RtX (Ol w) w' r (PR.mul p q)/\Ext w w':=by
 obtain⟨A,c,B,d,rfl,hA,hB⟩:=hv.sl;obtain⟨C,e,D,f,rfl,hC,hD⟩:=hu.sl;refine Jz Tryz.func107 Tryz.ntmps107 rfl kr rfl ?_;refine ρ ?_;refine bx ?_;intro w1 b1 ah b4 a6;refine ρ ?_;refine bx ?_;intro w2 b2 a9 az a4;refine ρ ?_;refine alc Zy ?_;intro w3 b3 ag ay ap;have a5:=a6;have aq:=a4;have a6:=(a6.ext a9).ext ag;have a4:=a4.ext ag;have am:=(ah.trans a9).trans ag;refine ρ ?_;have a7:Ext w3 w3.drew:=(Ext.refl w3).drew;have af:=a6.ext a7;have ae:=a4.ext a7;have J:=am.trans a7;refine drC 14 [] [(0,0),(0,2),(1,1),(1,3),(2,4),(2,5)] kr ?_;refine ρp ?_;refine ρd ?_;refine Qw (cs:=[.bool p.neg,.slice A _ c,.slice B _ d]) (λj u hu=>af.at hu) ?_;refine ρd ?_;refine Qw (cs:=[.bool q.neg,.slice C _ e,.slice D _ f]) (λj u hu=>ae.at hu) ?_;refine ρd ?_;refine dcl (Xo (N:=N) (q:=p) ⟨_,_,rfl,hA.ext J,hB.ext J⟩ om h2) ?_;rintro x4 w4 ⟨b6,G⟩;refine⟨G,?_⟩;refine ρd ?_
 refine dcl (Xo (N:=N') (q:=q) ⟨_,_,rfl,(hC.ext J).ext G,(hD.ext J).ext G⟩ om h4) ?_;rintro y4 w5 ⟨ai,a2⟩;refine⟨a2,?_⟩;have b5:=b6.ext a2;have ai:=ai.ol G;obtain⟨A5,c5,B5,d5,rfl,bg,be⟩:=b5.sl;obtain⟨C5,e5,D5,f5,rfl,bc,ba⟩:=ai.sl;refine ρd ?_;refine Jy ?_;refine stb (cs':=[.bool p.norm.neg,.slice A5 _ c5,.slice B5 _ d5]) ((af.ext G).ext a2) ?_ (Js rfl rfl rfl);intro w6 au hg6 ax;refine ρ ?_;refine Jo ?_;refine Jy ?_;have ar:Blk w6 b2 _ _:=((ae.ext G).ext a2).grown hg6 (λe=>by injection e with e;have:=a5.lt;omega);refine stb (cs':=[.bool q.norm.neg,.slice C5 _ e5,.slice D5 _ f5]) ar ?_ (Js rfl rfl rfl);intro w7 O hg7 aw;refine ρ ?_;have U:Blk w7 b1 _ _:=au.grown hg7 (λe=>by injection e with e;have:=a5.lt;omega);have l1:=a6.lt;have l2:=a4.lt;have l3:=ap.lt;have Z:GrN (Ol w3.drew) w5 w7:=(GrN.by hg6 λk ek=>by injection ek with ek;subst ek;exact l1).trans (GrN.by hg7 λk ek=>by injection ek with ek;subst ek;exact l2)
 have bf:=bg.gr Z;have bd:=be.gr Z;have bb:=bc.gr Z;have b9:=ba.gr Z;have ac:Ext w w7:=aw w (ax w ((J.trans G).trans a2) b4) (nL ah.size az);have ad:Blk w7 b3 58 [.bool false,.slice none 0 0,.slice none 0 0]:=((((ap.ext a7).ext G).ext a2).grown hg6 (λe=>by injection e with e;have:=a5.lt;have:=a9.size;omega)).grown hg7 (λe=>by injection e with e;have:=aq.lt;omega);have y:Ext w7 w7.drew:=(Ext.refl w7).drew;have U:=U.ext y;have O:=O.ext y;refine dr [(0,0),(0,1),(0,2),(0,3),(0,4),(0,5),(0,6),(0,7),(0,8),(0,10),(0,11),(0,12),(0,13),(1,9),(1,14),(0,15),(1,16),(2,17)] kr ?_;refine ρd ?_;refine dld (U.at (i:=0) rfl) ?_;refine ρd ?_;refine dld (O.at (i:=0) rfl) ?_;refine ρd ?_;refine dnbR ?_;refine ρd ?_;refine dld (U.at (i:=1) rfl) ?_;refine ρd ?_;refine dld (O.at (i:=1) rfl) ?_;refine ρd ?_;refine dld (U.at (i:=2) rfl) ?_;refine ρd ?_;refine dld (O.at (i:=2) rfl) ?_;refine ρd ?_
 have n1:=Jxw h1 (by decide);have n2:=Jxv h2 (by decide);have n3:=Jxw h3 (by decide);have n4:=Jxv h4 (by decide);have hm:p.norm.num*q.norm.num<18446744073709551616:=by have:=Jvr n1 n3;omega
 refine dcl (Za (bf.1.ext y) (bb.1.ext y) (by have:=Qk (n:=p.norm.num) om;omega) (by have:=Qk (n:=q.norm.num) om;omega)) ?_;rintro x8 w8 ⟨aj,b8,a1⟩;refine⟨a1,?_⟩;have aj:=b8.o aj;refine ρd ?_;refine dcl (Za ((bd.1.ext y).ext a1) ((b9.1.ext y).ext a1) (by have:=Qk (n:=p.norm.den) om;omega) (by have:=Qk (n:=q.norm.den) om;omega)) ?_;rintro y9 w9 ⟨aa,b7,a8⟩;refine⟨a8,?_⟩;have aa:=(b7.o aa).ol a1;have ao:=aj.ext a8;obtain⟨E,g,rfl⟩:=ao.1.sl;obtain⟨F,g',rfl⟩:=aa.1.sl;refine ρd ?_;refine dbld (Vs _ _ _ _ _ _ _) ?_;refine ρd ?_;refine dcl (Xo (q:=⟨!(p.norm.neg == q.norm.neg),p.norm.num*q.norm.num,p.norm.den*q.norm.den⟩) ⟨_,_,rfl,ao,aa⟩ hm h5) ?_;rintro r bi ⟨hR,ab⟩;refine⟨ab,?_⟩;have e:PR.norm ⟨!(p.norm.neg == q.norm.neg),p.norm.num*q.norm.num,p.norm.den*q.norm.den⟩=PR.mul p q:=rfl;rw[e]at hR;obtain⟨A',c',B',d',rfl,_,_⟩:=hR.sl
 have a3:=((y.trans a1).trans a8).trans ab;refine ρd ?_;refine Jy ?_;refine stb (cs':=[.bool (PR.mul p q).neg,.slice A' _ c',.slice B' _ d']) (ad.ext a3) ?_ (Js rfl rfl rfl);intro bh av an ak;refine ρ ?_;exact Zn av ⟨(hR.ol ((y.trans a1).trans a8)).box an ad.lt ac,ak w (ac.trans a3) (nL (ah.trans a9).size ay)⟩
theorem Qqj(hv:RtX N w v p)(hu:RtX N' w u q)(h1:p.num<4294967296)(h2:p.den<4294967296)(h3:q.num<4294967296)(h4:q.den<4294967296)(h5:p.norm.den*q.norm.den<4294967296)(h6:p.norm.num*q.norm.den+q.norm.num*p.norm.den<18446744073709551616):
  Ret Tryz.prog 220 [v,u] w λr w'=>RtX (Ol w) w' r (PR.add p q)/\Ext w w':=by
 obtain⟨A,c,B,d,rfl,hA,hB⟩:=hv.sl;obtain⟨C,e,D,f,rfl,hC,hD⟩:=hu.sl;refine Jz Tryz.func220 Tryz.ntmps220 rfl kr rfl ?_;refine ρ ?_;refine bx ?_;intro w1 b1 b7 bu a2;refine ρ ?_;refine bx ?_;intro w2 b2 ar bt a7;refine ρ ?_;refine alc Zy ?_;intro w3 b3 b6 bs af;have an:=a2;have bi:=a7;have a2:=(a2.ext ar).ext b6;have a7:=a7.ext b6;have bd:=(b7.trans ar).trans b6;refine ρ ?_;have aq:Ext w3 w3.drew:=(Ext.refl w3).drew;have az:=a2.ext aq;have ax:=a7.ext aq;have a6:=bd.trans aq;refine drC 14 [] [(0,0),(0,2),(1,1),(1,3),(2,4),(2,5)] kr ?_;refine ρp ?_;refine ρd ?_;refine Qw (cs:=[.bool p.neg,.slice A _ c,.slice B _ d]) (λj u hu=>az.at hu) ?_;refine ρd ?_;refine Qw (cs:=[.bool q.neg,.slice C _ e,.slice D _ f]) (λj u hu=>ax.at hu) ?_;refine ρd ?_;refine dcl (Xo (N:=N) (q:=p) ⟨_,_,rfl,hA.ext a6,hB.ext a6⟩ om h2) ?_;rintro x4 w4 ⟨c0,a4⟩;refine⟨a4,?_⟩
 refine ρd ?_;refine dcl (Xo (N:=N') (q:=q) ⟨_,_,rfl,(hC.ext a6).ext a4,(hD.ext a6).ext a4⟩ om h4) ?_;rintro y4 w5 ⟨b9,ae⟩;refine⟨ae,?_⟩;have bz:=c0.ext ae;have b9:=b9.ol a4;obtain⟨A5,c5,B5,d5,rfl,cb,c9⟩:=bz.sl;obtain⟨C5,e5,D5,f5,rfl,c8,c6⟩:=b9.sl;refine ρd ?_;refine Jy ?_;refine stb (cs':=[.bool p.norm.neg,.slice A5 _ c5,.slice B5 _ d5]) ((az.ext a4).ext ae) ?_ (Js rfl rfl rfl);intro w6 bl hg6 br;refine ρ ?_;refine Jo ?_;refine Jy ?_;have bj:Blk w6 b2 _ _:=((ax.ext a4).ext ae).grown hg6 (λe=>by injection e with e;have:=an.lt;omega);refine stb (cs':=[.bool q.norm.neg,.slice C5 _ e5,.slice D5 _ f5]) bj ?_ (Js rfl rfl rfl);intro w7 am hg7 bq;refine ρ ?_;have ao:Blk w7 b1 _ _:=bl.grown hg7 (λe=>by injection e with e;have:=an.lt;omega);have l1:=a2.lt;have l2:=a7.lt;have l3:=af.lt;have ad:GrN (Ol w3.drew) w5 w7:=(GrN.by hg6 λk ek=>by injection ek with ek;subst ek;exact l1).trans (GrN.by hg7 λk ek=>by injection ek with ek;subst ek;exact l2)
 have ca:=cb.gr ad;have bh:=c9.gr ad;have c7:=c8.gr ad;have bg:=c6.gr ad;have ac:Ext w w7:=bq w (br w ((a6.trans a4).trans ae) bu) (nL b7.size bt);have av:Blk w7 b3 58 [.bool false,.slice none 0 0,.slice none 0 0]:=((((af.ext aq).ext a4).ext ae).grown hg6 (λe=>by injection e with e;have:=an.lt;have:=ar.size;omega)).grown hg7 (λe=>by injection e with e;have:=bi.lt;omega);have U:Ext w7 w7.drew:=(Ext.refl w7).drew;have ay:=ao.ext U;have aw:=am.ext U;refine dr [(0,0),(0,1),(0,2),(0,3),(0,5),(0,6),(0,7),(0,8),(1,4),(1,9),(0,10),(0,11)] kr ?_;refine ρd ?_;refine dld (ay.at (i:=1) rfl) ?_;refine ρd ?_;refine dld (aw.at (i:=2) rfl) ?_;refine ρd ?_;refine dld (aw.at (i:=1) rfl) ?_;refine ρd ?_;refine dld (ay.at (i:=2) rfl) ?_;refine ρd ?_;have n1:=Jxw h1 (by decide);have n2:=Jxv h2 (by decide);have n3:=Jxw h3 (by decide);have n4:=Jxv h4 (by decide);have s1:=Qk (n:=p.norm.num) om
 have s2:=Qk (n:=p.norm.den) om;have s3:=Qk (n:=q.norm.num) om;have s4:=Qk (n:=q.norm.den) om;refine dcl (Za (ca.1.ext U) (bg.1.ext U) om om) ?_;rintro x8 w8 ⟨ba,c4,a8⟩;refine⟨a8,?_⟩;have ba:=c4.o ba;refine ρd ?_;refine dcl (Za ((c7.1.ext U).ext a8) ((bh.1.ext U).ext a8) om om) ?_;rintro y9 w9 ⟨b8,c2,ah⟩;refine⟨ah,?_⟩;have b8:=(c2.o b8).ol a8;have bw:=ba.ext ah;have a3:=(U.trans a8).trans ah;refine ρd ?_;refine ρ ?_;refine ld ((ao.ext a3).at (i:=2) rfl) ?_;refine ρ ?_;refine ld ((am.ext a3).at (i:=2) rfl) ?_;refine ρ ?_;refine cl (Za (bh.1.ext a3) (bg.1.ext a3) om om) ?_;rintro z b4 ⟨hZ,c1,ab⟩;have hZ:=(c1.o hZ).ol (a8.trans ah);have hX:=bw.ext ab;have hY:=b8.ext ab;have y:=a3.trans ab;have a2:=ao.ext y;have a7:=am.ext y;have af:=av.ext y;have b5:=av.lt;have ai:=nL (b7.trans ar).size bs
 have a9:=ac.trans y;refine ρ ?_;refine ld (a2.at (i:=0) rfl) ?_;refine ρ ?_;refine ld (a7.at (i:=0) rfl) ?_;refine ρ ?_;refine eqb ?_;refine ρ ?_;obtain⟨Z,zc,rfl⟩:=hZ.1.sl;have cd:=Qk (n:=p.norm.num*q.norm.den) om;have cc:=Qk (n:=q.norm.num*p.norm.den) om;refine ci (λh=>?_) (λh=>?_)
 .have he:p.norm.neg=q.norm.neg:=eq_of_beq h;have eq:PR.norm ⟨p.norm.neg,p.norm.num*q.norm.den+q.norm.num*p.norm.den,p.norm.den*q.norm.den⟩=PR.add p q:=by unfold PR.add PR.addN;rw[if_pos he]
  have ag:Ext b4 b4.drew:=(Ext.refl b4).drew;refine ρ ?_;refine dr [(0,0),(0,1),(0,2),(0,3),(0,5),(1,4),(0,6),(1,7),(2,8)] kr ?_;refine ρd ?_;refine dld ((a2.ext ag).at (i:=0) rfl) ?_;refine ρd ?_;refine dcl (Jvq (hX.1.ext ag) (hY.1.ext ag) om om) ?_;rintro t bp ⟨hT,bb,J⟩;refine⟨J,?_⟩;have a1:=ag.trans J;have hT:=(bb.o hT).ol ((((U.trans a8).trans ah).trans ab).trans ag);obtain⟨T,tc,rfl⟩:=hT.1.sl;refine ρd ?_;refine dbld (Vs _ _ _ _ _ _ _) ?_;refine ρd ?_;refine dcl (Xo (q:=⟨p.norm.neg,p.norm.num*q.norm.den+q.norm.num*p.norm.den,p.norm.den*q.norm.den⟩) ⟨_,_,rfl,hT,(hZ.ol U).ext a1⟩ h6 h5) ?_;rintro r bo ⟨hR,aa⟩;refine⟨aa,?_⟩;rw[eq]at hR;obtain⟨A',c',B',d',rfl,_,_⟩:=hR.sl;have G:=a1.trans aa;refine ρd ?_;refine Jy ?_;refine stb (cs':=[.bool (PR.add p q).neg,.slice A' _ c',.slice B' _ d']) (af.ext G) ?_ (Js rfl rfl rfl);intro bc bm be a5
  refine ρ ?_;exact Zn bm ⟨(hR.ol (y.trans a1)).box be b5 ac,a5 w (a9.trans G) ai⟩
 have he:p.norm.neg≠q.norm.neg:=λe=>by rw[e]at h;simp at h
 refine ρ ?_;refine cl (Jgz hX.1 hY.1 om) ?_;rintro _ bp ⟨⟨t,rfl,hT,bb⟩,J⟩;have hT:=(bb.o hT).ol y;refine ρ ?_;by_cases hlt:p.norm.num*q.norm.den<q.norm.num*p.norm.den
 .rw[if_pos hlt];have eq:PR.norm ⟨q.norm.neg,q.norm.num*p.norm.den-p.norm.num*q.norm.den,p.norm.den*q.norm.den⟩=PR.add p q:=by unfold PR.add PR.addN;rw[if_neg he,if_neg om]
  refine ρ ?_;refine cl (Jgz (hY.1.ext J) (hX.1.ext J) om) ?_;rintro _ bo ⟨⟨t2,rfl,au,bf⟩,aa⟩;have au:=(bf.o au).ol (y.trans J);obtain⟨T,tc,rfl⟩:=au.1.sl;have G:=J.trans aa;refine ρ ?_;refine ld ((a7.ext G).at (i:=0) rfl) ?_;refine ρ ?_;refine bld (Vs _ _ _ _ _ _ _ _) ?_;refine ρ ?_;refine cl (Xo (q:=⟨q.norm.neg,q.norm.num*p.norm.den-p.norm.num*q.norm.den,p.norm.den*q.norm.den⟩) ⟨_,_,rfl,au,(hZ.ol U).ext G⟩ (by show q.norm.num*p.norm.den-_<_;omega) h5) ?_;rintro r bc ⟨hR,a5⟩;rw[eq]at hR;obtain⟨A',c',B',d',rfl,_,_⟩:=hR.sl;have O:=G.trans a5;refine ρ ?_;refine stb (cs':=[.bool (PR.add p q).neg,.slice A' _ c',.slice B' _ d']) (af.ext O) ?_ (Js rfl rfl rfl);intro bn ap ak aj;refine ρ ?_;exact Zn ap ⟨(hR.ol (y.trans G)).box ak b5 ac,aj w (a9.trans O) ai⟩
 rw[if_neg hlt];have eq:PR.norm ⟨p.norm.neg,p.norm.num*q.norm.den-q.norm.num*p.norm.den,p.norm.den*q.norm.den⟩=PR.add p q:=by unfold PR.add PR.addN;rw[if_neg he,if_pos om]
 obtain⟨T,tc,rfl⟩:=hT.1.sl;refine ρ ?_;refine ld ((a2.ext J).at (i:=0) rfl) ?_;refine ρ ?_;refine bld (Vs _ _ _ _ _ _ _ _) ?_;refine ρ ?_;refine cl (Xo (q:=⟨p.norm.neg,p.norm.num*q.norm.den-q.norm.num*p.norm.den,p.norm.den*q.norm.den⟩) ⟨_,_,rfl,hT,(hZ.ol U).ext J⟩ (by show p.norm.num*q.norm.den-_<_;omega) h5) ?_;rintro r bc ⟨hR,a5⟩;rw[eq]at hR;obtain⟨A',c',B',d',rfl,_,_⟩:=hR.sl;have O:=J.trans a5;refine ρ ?_;refine stb (cs':=[.bool (PR.add p q).neg,.slice A' _ c',.slice B' _ d']) (af.ext O) ?_ (Js rfl rfl rfl);intro bn ap ak aj;refine ρ ?_;exact Zn ap ⟨(hR.ol (y.trans J)).box ak b5 ac,aj w (a9.trans O) ai⟩
open Go.RowKit Pl Go.Wk
variable {N N':Nat->Prop}{p q:PR}{u v:Value}{w:World}
theorem Ut(q:PR): q.norm.num<=q.num:=by
 unfold PR.norm;split
 .exact Nat.le_refl _
 exact Nat.div_le_self _ _
theorem Vk(h:q.den≠0): q.norm.den<=q.den:=by
 unfold PR.norm;split
 .show 1<=q.den;omega
 exact Nat.div_le_self _ _
structure Sm(p q:PR): Prop where
 p0:p.den≠0
 q0:q.den≠0
 pn:p.num<4294967296
 qn:q.num<4294967296
 d:p.den*q.den<4294967296
 s:p.num*q.den+q.num*p.den<18446744073709551616
theorem Sm.pd(h:Sm p q): p.den<4294967296:=nN (Nat.le_mul_of_pos_right _ (Nat.pos_of_ne_zero h.q0)) h.d
theorem Sm.qd(h:Sm p q): q.den<4294967296:=nN (Nat.le_mul_of_pos_left _ (Nat.pos_of_ne_zero h.p0)) h.d
theorem Sm.le{p' q':PR}(h:Sm p q)(h1:p'.num<=p.num)(h2:p'.den<=p.den)(h3:q'.num<=q.num)(h4:q'.den<=q.den)(h5:p'.den≠0)(h6:q'.den≠0): Sm p' q':=by
 have a:=h.pn;have b:=h.qn;refine⟨h5,h6,om,om,Nat.lt_of_le_of_lt (Nat.mul_le_mul h2 h4) h.d,Nat.lt_of_le_of_lt (Nat.add_le_add (Nat.mul_le_mul h1 h4) (Nat.mul_le_mul h3 h2)) h.s⟩
theorem Sm.nrm(h:Sm p q): Sm p.norm q.norm:=h.le (Ut _) (Vk h.p0) (Ut _) (Vk h.q0) (PR.norm_val h.p0).2 (PR.norm_val h.q0).2
theorem Qqf(hv:RtX N w v p)(hu:RtX N' w u q)(h:Sm p q):
  Ret Tryz.prog 192 [v,u] w λr w'=>RtX (Ol w) w' r (PR.sub p q)/\Ext w w':=by
 have ho:Sm p q.opp:=h.le (Nat.le_refl _) (Nat.le_refl _) (Ut ⟨!q.neg,q.num,q.den⟩) (Vk (q:=⟨!q.neg,q.num,q.den⟩) h.q0) h.p0 (PR.opp_val h.q0).2;have hn:=ho.nrm;have aa:=h.pd;have a8:=h.qd;have a9:=h.pn;have af:=h.qn;have ac:=ho.qd;have ab:=ho.qn;obtain⟨A,c,B,d,rfl,hA,hB⟩:=hv.sl;obtain⟨C,e,D,f,rfl,hC,hD⟩:=hu.sl;refine Jz Tryz.func192 Tryz.ntmps192 rfl kr rfl ?_;refine ρ ?_;refine bx ?_;intro w1 b1 a5 ah a3;refine ρ ?_;refine bx ?_;intro w2 b2 a1 ag a2;refine ρ ?_;refine alc Zy ?_;intro w3 b3 Z ad a6;have O:=(a5.trans a1).trans Z;have G:Ext w3 w3.drew:=(Ext.refl w3).drew;have a3:=((a3.ext a1).ext Z).ext G;have a2:=(a2.ext Z).ext G;have i:=O.trans G;refine ρ ?_;refine dr [(0,0),(0,1),(1,2),(1,3),(2,4)] kr ?_;refine ρd ?_;refine Qw (cs:=[.bool p.neg,.slice A _ c,.slice B _ d]) (λj u hu=>a3.at hu) ?_;refine ρd ?_;refine Qw (cs:=[.bool q.neg,.slice C _ e,.slice D _ f]) (λj u hu=>a2.at hu) ?_
 refine ρd ?_;refine dcl (Jfn (N:=N') (q:=q) ⟨_,_,rfl,hC.ext i,hD.ext i⟩ om a8) ?_;rintro y w4 ⟨hY,J⟩;refine⟨J,?_⟩;refine ρd ?_;refine dcl (Qqj (N:=N) (p:=p) (q:=q.opp) ⟨_,_,rfl,(hA.ext i).ext J,(hB.ext i).ext J⟩ hY a9 aa ab ac hn.d hn.s) ?_;rintro r w5 ⟨hR,a4⟩;refine⟨a4,?_⟩;obtain⟨A',c',B',d',rfl,_,_⟩:=hR.sl;have U:=(G.trans J).trans a4;refine ρd ?_;refine Jy ?_;refine stb (cs':=[.bool (PR.add p q.opp).neg,.slice A' _ c',.slice B' _ d']) (a6.ext U) ?_ (Js rfl rfl rfl);intro w6 ae hg6 a7;refine ρ ?_;exact Zn ae ⟨(hR.ol (G.trans J)).box hg6 a6.lt O,a7 w (O.trans U) (nL (a5.trans a1).size ad)⟩
theorem Jfq(hv:RtX N w v p)(hu:RtX N' w u q)(h0:q.norm.num≠0)(hp0:p.den≠0)(hq0:q.den≠0)(h1:p.num<4294967296)(h2:p.den<4294967296)(h3:q.num<4294967296)(h4:q.den<4294967296)(h5:p.den*q.num<4294967296):
  Ret Tryz.prog 191 [v,u] w λr w'=>(∃ x,r=.tuple #[x,.int .i64 0]/\RtX (Ol w) w' x (PR.div p q))/\Ext w w':=by
 have a1:=Ut q;have a2:=Vk hq0;have a3:=Vk hp0;have a4:=Vk (q:=⟨q.norm.neg,q.norm.den,q.norm.num⟩) h0;obtain⟨A,c,B,d,rfl,hA,hB⟩:=hv.sl;obtain⟨C,e,D,f,rfl,hC,hD⟩:=hu.sl;refine Jz Tryz.func191 Tryz.ntmps191 rfl kr rfl ?_;refine ρ ?_;refine bx ?_;intro w1 b1 a9 an Z;refine ρ ?_;refine bx ?_;intro w2 b2 a8 aj J;refine ρ ?_;refine alc Zy ?_;intro w3 b3 a7 ai am;have O:=(a9.trans a8).trans a7;have l1:=Z.lt;have l2:=J.lt;have Z:=(Z.ext a8).ext a7;have J:=J.ext a7;refine ρ ?_;refine ldW J ?_;refine ρ ?_;refine cl (Xo (N:=N') (q:=q) ⟨_,_,rfl,hC.ext O,hD.ext O⟩ om h4) ?_;rintro y w4 ⟨hY,U⟩;obtain⟨C5,e5,D5,f5,rfl,ac,ab⟩:=hY.sl;refine ρ ?_;refine stb (cs':=[.bool q.norm.neg,.slice C5 _ e5,.slice D5 _ f5]) (J.ext U) ?_ (Js rfl rfl rfl);intro w5 G aa ah;have af:=J.lt;have a5:GrN (Ol w3) w4 w5:=GrN.by aa λk ek=>by injection ek with ek;subst ek;exact af
 have ac:=ac.gr a5;have ab:=ab.gr a5;have j:Ext w w5:=ah w (O.trans U) (nL a9.size aj);have ae:Blk w5 b1 _ _:=(Z.ext U).grown aa (λe=>by injection e with e;omega);have a6:Blk w5 b3 _ _:=(am.ext U).grown aa (λe=>by injection e with e;omega);refine ρ ?_;refine ld (G.at (i:=1) rfl) ?_;refine ρ ?_;rw[len0,decide_eq_false h0];refine ρ ?_;refine ldW ae ?_;refine ρ ?_;refine ld (G.at (i:=0) rfl) ?_;refine ρ ?_;refine ld (G.at (i:=2) rfl) ?_;refine ρ ?_;refine ld (G.at (i:=1) rfl) ?_;refine ρ ?_;refine bld (Vs _ _ _ _ _ _ _ _) ?_;refine ρ ?_;refine cl (Jwx (N:=N) (p:=p) (q:=⟨q.norm.neg,q.norm.den,q.norm.num⟩) ⟨_,_,rfl,hA.ext j,hB.ext j⟩ ⟨_,_,rfl,ab,ac⟩ h1 h2 (by show q.norm.den<_;omega) (by show q.norm.num<_;omega) (nN (Nat.mul_le_mul a3 (nL a4 a1)) h5)) ?_;rintro r w6 ⟨hR,ad⟩;have eq:PR.mul p ⟨q.norm.neg,q.norm.den,q.norm.num⟩=PR.div p q:=by unfold PR.div;rw[if_neg h0]
 rw[eq]at hR;obtain⟨A',c',B',d',rfl,_,_⟩:=hR.sl;refine ρ ?_;refine stb (cs':=[.bool (PR.div p q).neg,.slice A' _ c',.slice B' _ d']) (a6.ext ad) ?_ (Js rfl rfl rfl);intro w7 ak hg7 ag;refine ρ ?_;exact Xr ak ⟨⟨_,rfl,hR.box hg7 a6.lt j⟩,ag w (j.trans ad) (nL (a9.trans a8).size ai)⟩
theorem Qqh(hv:RtX N w v p)(hu:RtX N' w u q)(hN:∀ k,N k->k<w.heap.size)(hN':∀ k,N' k->k<w.heap.size)(h1:p.num<4294967296)(h2:p.den<4294967296)(h3:q.num<4294967296)(h4:q.den<4294967296):
  Ret Tryz.prog 161 [v,u] w λr w'=>r=.int .i64 (PR.cmp p q)/\Ext w w':=by
 have s1:=Qk (n:=p.num) om;have s2:=Qk (n:=p.den) om;have s3:=Qk (n:=q.num) om;have s4:=Qk (n:=q.den) om;have t2:p.dvs<4294967296:=by unfold PR.dvs;split<;>omega
 have t4:q.dvs<4294967296:=by unfold PR.dvs;split<;>omega
 have s5:=Qk (n:=p.dvs) om;have s6:=Qk (n:=q.dvs) om;obtain⟨A,c,B,d,rfl,hA,hB⟩:=id hv.sl;obtain⟨C,e,D,f,rfl,hC,hD⟩:=id hu.sl;refine Jz Tryz.func161 Tryz.ntmps161 rfl kr rfl ?_;refine ρ ?_;refine bx ?_;intro w1 b1 ae ak J;refine ρ ?_;refine bx ?_;intro w2 b2 ac aj a1;have U:=ae.trans ac;have J:=J.ext ac;refine ρ ?_;refine ldW J ?_;refine ρ ?_;refine cl (Ym (hv.ext U) om) ?_;rintro _ w3 ⟨rfl,a8⟩;refine ρ ?_;refine ldW (a1.ext a8) ?_;refine ρ ?_;refine cl (Ym ((hu.ext U).ext a8) om) ?_;rintro _ w4 ⟨rfl,ad⟩;have O:=a8.trans ad;have a2:=U.trans O;have J:=J.ext O;have a1:=a1.ext O;refine ρ ?_;refine ci (λh=>?_) (λh=>?_)
 .have a9:p.sign≠q.sign:=by simpa using h
  refine ρ ?_;refine cl (Jbh _ _ _) ?_;rintro _ w5 ⟨rfl,rfl⟩;refine ρ ?_;refine Jq ⟨?_,a2⟩;unfold PR.cmp sgn;rw[if_pos a9];congr 1
  split
  .rfl
  rw[if_pos om]
 have a9:¬ p.sign≠q.sign:=by simpa using h
 have a5:Ext w4 w4.drew:=(Ext.refl w4).drew;have a4:=J.ext a5;have a3:=a1.ext a5;have y:=a2.trans a5;refine ρ ?_;refine dr [(0,0),(0,1),(0,2),(0,3),(0,6),(0,7),(0,8),(1,4),(1,5),(1,9),(1,10),(1,11),(0,12),(0,13)] kr ?_;refine ρd ?_;refine dld (a4.at (i:=1) rfl) ?_;refine ρd ?_;refine Qw (cs:=[.bool q.neg,.slice C _ e,.slice D _ f]) (λj u hu=>a3.at hu) ?_;refine ρd ?_;refine dld (a3.at (i:=1) rfl) ?_;refine ρd ?_;refine Qw (cs:=[.bool p.neg,.slice A _ c,.slice B _ d]) (λj u hu=>a4.at hu) ?_;refine ρd ?_;refine dcl (Jfp (hu.ext y) (λk hk=>nM (hN' k hk) y.size) om) ?_;rintro x5 w5 ⟨ai,a7⟩;refine⟨a7,?_⟩;refine ρd ?_;refine dcl (Za ((hA.1.ext y).ext a7) ai.1 om om) ?_;rintro x6 w6 ⟨ah,_,ab⟩;refine⟨ab,?_⟩;have G:=(y.trans a7).trans ab;refine ρd ?_;refine dcl (Jfp (hv.ext G) (λk hk=>nM (hN k hk) G.size) om) ?_
 rintro x7 w7 ⟨ag,Z⟩;refine⟨Z,?_⟩;refine ρd ?_;refine dcl (Za ((hC.1.ext G).ext Z) ag.1 om om) ?_;rintro x8 w8 ⟨af,_,a6⟩;refine⟨a6,?_⟩;refine ρd ?_;refine dcl (Jzb ((ah.ext Z).ext a6) af) ?_;rintro _ w9 ⟨rfl,aa⟩;refine⟨aa,?_⟩;refine ρd ?_;refine ρ ?_;refine Jq ⟨congrArg (Value.int .i64) ?_,((G.trans Z).trans a6).trans aa⟩;unfold PR.cmp Vc;rw[if_neg a9];have e:(if p.num*q.dvs<q.num*p.dvs then(-1:Int) else if q.num*p.dvs<p.num*q.dvs then 1 else 0)=if p.num*q.dvs<q.num*p.dvs then -1 else if p.num*q.dvs=q.num*p.dvs then 0 else 1:=by
  split
  .rfl
  split
  .rw[if_neg om]
  rw[if_pos om]
 rw[e];have h3:(if p.num*q.dvs<q.num*p.dvs then(-1:Int) else if p.num*q.dvs=q.num*p.dvs then 0 else 1) = -1∨(if p.num*q.dvs<q.num*p.dvs then(-1:Int) else if p.num*q.dvs=q.num*p.dvs then 0 else 1)=0∨(if p.num*q.dvs<q.num*p.dvs then(-1:Int) else if p.num*q.dvs=q.num*p.dvs then 0 else 1)=1:=by
  split
  .exact .inl rfl
  split
  .exact .inr (.inl rfl)
  exact .inr (.inr rfl)
 have h4:p.sign=0∨p.sign = -1∨p.sign=1:=by
  unfold PR.sign;split
  .exact .inl rfl
  split
  .exact .inr (.inl rfl)
  exact .inr (.inr rfl)
 rcases h3 with h3|h3|h3<;>rcases h4 with h4|h4|h4<;>rw[h3,h4]<;>decide
open Go.RowKit Pl Go.Wk
variable {d k n ty:Nat}{N:Nat->Prop}{a b f p q:PR}{α:Type}{fv ov rv v:Value}{w:World}
theorem ERt: ElT Tryz.prog 56 58 3 56 (.agg #[.bool false,.slice none 0 0,.slice none 0 0]):=⟨Tryz.underlying56,info_parts kr,rfl,by decide⟩
def prz: PR:=⟨false,0,0⟩
theorem rtc0(N:Nat->Prop)(w:World): RtC N w [.bool false,.slice none 0 0,.slice none 0 0] prz:=⟨_,_,rfl,NatX.nil w,NatX.nil w⟩
theorem Qyd(n:Nat)(p:List Value×α): Jc (List.replicate n p)=Qg n λ_=>p.1:=by
 induction n with
 | zero=>rfl
 | succ n ih=>
  rw[List.replicate_succ'];have e:Jc (List.replicate n p++[p])=Jc (List.replicate n p)++p.1:=by simp[Jc]
  rw[e,ih];simp[Qg,List.range_succ,List.flatMap_append]
theorem mkRt{al:AL}{Q:Exit->Act->World->Prop}{ops:Array Oper}{rest:List Oper}{pos:String}{aft:Array Edge}{x y:Operand}(m:Nat)(hm:m<=1000)(kk:∀ w1 A,Ext w w1->(∀ N,OX 58 3 RtC N w1 w.heap.size (.slice A m m) (List.replicate m prz))->(∀ g,A=some g->w.heap.size<=g.block)->WL Tryz.prog n ops Q rest ((d,.slice A m m)::al) w1)(hx:ev al x=some (.int .i64 (m:Int)):=by rfl)(hy:ev al y=some (.int .i64 (m:Int)):=by rfl)(hd:Nat.blt d n=true:=by rfl):
  WL Tryz.prog n ops Q (⟨some d,.makeSlice 56 x y,ty,pos,aft,none⟩::rest) al w:=by
 refine mkn ERt m om (by unfold maxLen;omega) ?_ hx hy rfl rfl hd;intro w1 A i u B;refine kk w1 A i (λN=>⟨List.replicate m ([.bool false,.slice none 0 0,.slice none 0 0],prz),by simp,?_,λp j=>?_⟩) B
 .rw[List.length_replicate,Qyd];have e:(madeCells (Value.agg #[.bool false,.slice none 0 0,.slice none 0 0]).cells (m*3)).toList=Qg m λ_=>[.bool false,.slice none 0 0,.slice none 0 0]:=Jhh (zs:=[.bool false,.slice none 0 0,.slice none 0 0]) (by simp) m;rw[<-e];exact u
 rw[List.eq_of_mem_replicate j];exact⟨rfl,rtc0 N w1⟩
def mix(l' l:List α)(k:Nat): List α:=l'.take k++l.drop k
theorem Yt{l' l:List α}(h:l'.length=l.length)(hk:k<=l.length): (mix l' l k).length=l.length:=by
 simp[mix,h];omega
theorem Jzc{l' l:List α}(h:l'.length=l.length)(hk:k<l.length): (mix l' l k)[k]?=l[k]?:=by
 rw[mix,List.getElem?_append_right (by simp;omega),List.length_take,Nat.min_eq_left om,Nat.sub_self,List.getElem?_drop,Nat.add_zero]
theorem Ys{l' l:List α}(h:l'.length=l.length)(hk:k<l.length){x:α}(hx:l'[k]?=some x): (mix l' l k).set k x=mix l' l (k+1):=by
 have j:l'.take (k+1)=l'.take k++[x]:=by rw[List.take_add_one,hx];rfl
 have i:l.drop k=l[k]::l.drop (k+1):=List.drop_eq_getElem_cons hk;rw[mix,mix,j,i,List.set_append_right _ _ (by simp;omega),List.length_take,Nat.min_eq_left om,Nat.sub_self,List.set_cons_zero,List.append_assoc];rfl
theorem Jvs{l' l:List α}(h:l'.length=l.length)(hk:k<l.length)(hx:l'[k]?=l[k]?): mix l' l k=mix l' l (k+1):=by
 rw[<-Ys h hk (x:=l[k]) (by rw[hx];exact gE hk)];refine List.ext_getElem? λi=>?_;by_cases e:k=i
 .subst e;rw[List.getElem?_set_self (by rw[Yt h om];exact hk),Jzc h hk,List.getElem?_eq_getElem hk]
 rw[List.getElem?_set_ne e]
theorem Gm(l' l:List α): mix l' l 0=l:=by simp[mix]
theorem Jjn{l' l:List α}(h:l'.length=l.length): mix l' l l.length=l':=by simp[mix,<-h]
theorem RtX.cell(h:RtX N w v q): ∃ A c B d,v=.agg #[.bool q.neg,.slice A (Jj q.num).length c,.slice B (Jj q.den).length d]/\RtC N w [.bool q.neg,.slice A (Jj q.num).length c,.slice B (Jj q.den).length d] q:=by
 obtain⟨A,c,B,d,e,j,i⟩:=h.sl;exact⟨A,c,B,d,e,_,_,rfl,j,i⟩
theorem RtC.sl{N:Nat->Prop}{w:World}{cs:List Value}{q:PR}(h:RtC N w cs q): ∃ A c B d,cs=[.bool q.neg,.slice A (Jj q.num).length c,.slice B (Jj q.den).length d]/\RtX N w (.agg #[.bool q.neg,.slice A (Jj q.num).length c,.slice B (Jj q.den).length d]) q:=by
 obtain⟨x,y,e,j,i⟩:=h;obtain⟨A,c,rfl⟩:=j.1.sl;obtain⟨B,d,rfl⟩:=i.1.sl;exact⟨A,c,B,d,e,_,_,rfl,j,i⟩
theorem RtC.one(cs:List Value)(q:PR)(h:RtC N w cs q): ∀ u∈cs,u.oneCell'=true:=by
 obtain⟨A,c,B,d,rfl,_⟩:=h.sl;exact Js rfl rfl rfl
abbrev Ov(w:World)(v:Value): Nat->Prop:=λk=>k<w.heap.size∨v.ownBlock=some k
theorem Jqk(n:Nat)(hn:n<=1000)(w:World): Ret Tryz.prog 159 [.int .i64 (n:Int)] w λu w'=>OX 58 3 RtC (Ov w u) w' w.heap.size u (List.replicate n pr0)/\Ext w w':=by
 refine Jz Tryz.func159 Tryz.ntmps159 rfl kr rfl ?_;refine ρ ?_;refine mkRt n hn ?_;intro w1 A a2 hO hA;have hO:=hO (Ov w (.slice A n n));refine ρ ?_;refine Jp (fun (k:Nat)=>[(3,.slice A n n),(8,.int .i64 (n:Int)),(9,.int .i64 (k:Int))]) (λk w'=>k<=n/\Ext w w'/\OX 58 3 RtC (Ov w (.slice A n n)) w' w.heap.size (.slice A n n) (mix (List.replicate n pr0) (List.replicate n prz) k)) (λk=>n-k) 0 sB ⟨Nat.zero_le _,a2,by rw[Gm];exact hO⟩ ?_;rintro k w2 ⟨hk,y,i⟩;have U:(mix (List.replicate n pr0) (List.replicate n prz) k).length=n:=by rw[Yt (by simp) (by simpa using hk)];simp
 refine ρ ?_;refine ci (λh=>?_) (λh=>?_)
 .have B:k<n:=by have:=oT h;omega
  clear h;refine ρ ?_;refine cl (Gd 0 (by decide) (by decide) w2) ?_;rintro r w3 ⟨hr,J⟩;have e0:PR.int 0=pr0:=rfl;rw[e0]at hr;obtain⟨C,e,D,f,rfl,hc⟩:=hr.cell;have G:=i.ext RtC.sta J;obtain⟨A',c',cs,ev,_,O,_⟩:=id G.el;rw[U]at ev O;injection ev with ev1 ev2 ev3
  subst ev1;refine ρ ?_;refine ixq 3 k O B ?_;refine ρ ?_;obtain⟨_,_,_,_,a3⟩:=id G.form;have a5:k<(mix (List.replicate n pr0) (List.replicate n prz) k).length:=om
  refine stX RtC.sta G U.symm a5 (cs:=[.bool pr0.neg,.slice C _ e,.slice D _ f]) (a:=pr0) (RtC.sta.old hc λj Z=>.inl ?_) (λg hg=>.inr hg) (Js rfl rfl rfl) ?_
  .rcases Z with Z|Z
   .exact nM Z y.size
   obtain⟨_,_,_,_,h3⟩:=id i.form;exact(h3 j Z).2
  intro w4 a1 a6;rw[Ys (l':=List.replicate n pr0) (l:=List.replicate n prz) (x:=pr0) (by simp) (by simpa using B) (by simp[B])]at a1;refine ρ ?_;exact Jh (k+1) sO ⟨om,Jt (y.trans J) a6 (λg hg=>(a3 g hg).1),a1⟩ om
 have a4:k=n:=by have:=oF h;omega
 subst a4;have e:=Jjn (l':=List.replicate k pr0) (l:=List.replicate k prz) (by simp);rw[List.length_replicate]at e;rw[e]at i;refine ρ ?_;exact Jq ⟨i,y⟩
structure Sl(q:PR): Prop where
 d0:q.den≠0
 n:q.num<=720
 d:q.den<=120
theorem mul_le'(hp:p.den≠0)(hq:q.den≠0): (PR.mul p q).num<=p.num*q.num/\(PR.mul p q).den<=p.den*q.den:=by
 have j:=(PR.norm_val hp).2;have i:=(PR.norm_val hq).2;refine⟨nL (Ut ⟨p.norm.neg != q.norm.neg,p.norm.num*q.norm.num,p.norm.den*q.norm.den⟩) (Nat.mul_le_mul (Ut p) (Ut q)),Nat.le_trans (Vk (q:=⟨p.norm.neg != q.norm.neg,p.norm.num*q.norm.num,p.norm.den*q.norm.den⟩) (Nat.mul_ne_zero j i)) (Nat.mul_le_mul (Vk hp) (Vk hq))⟩
theorem Sl.sm(ha:Sl a)(hf:Sl f)(hb:Sl b): Sm a (PR.mul f b):=by
 obtain⟨G,D⟩:=mul_le' hf.d0 hb.d0;have B:f.num*b.num<=720*720:=Nat.mul_le_mul hf.n hb.n;have y:f.den*b.den<=120*120:=Nat.mul_le_mul hf.d hb.d;have u:a.den*(PR.mul f b).den<=120*14400:=Nat.mul_le_mul ha.d om;have j:a.num*(PR.mul f b).den<=720*14400:=Nat.mul_le_mul ha.n om;have i:(PR.mul f b).num*a.den<=518400*120:=Nat.mul_le_mul om ha.d;have:=ha.n;exact⟨ha.d0,(PR.mul_val hf.d0 hb.d0).2,om,om,om,om⟩
theorem Sl.mm(hf:Sl f)(hb:Sl b): f.norm.den*b.norm.den<4294967296:=by
 have i:f.norm.den*b.norm.den<=120*120:=Nat.mul_le_mul (nL (Vk hf.d0) hf.d) (nL (Vk hb.d0) hb.d);omega
theorem Sl.len(h:Sl q): (Jj q.num).length<=1000:=by have:=Qk (n:=q.num) (by have:=h.n;omega);omega
def Zu(f a b:PR): PR:=if b.sign≠0 then PR.sub a (PR.mul f b) else a
theorem Jnh{row other:List PR}(hr:GX 3 RtC N w rv row)(ho:GX 3 RtC N w ov other)(hf:RtX N w fv f)(hN:∀ k,N k->k<w.heap.size)(hl:other.length=row.length)(h0:0<row.length)(hm:row.length<=1000)(hs:∀ q∈row,Sl q)(hs2:∀ q∈other,Sl q)(hsf:Sl f): Ret Tryz.prog 164 [rv,ov,fv] w λu w'=>GX 3 RtC N w' u (Xh row other f)/\Ext w w':=by
 obtain⟨A,c,_,rfl,hc,_,_,_,_⟩:=id hr.el;obtain⟨B,d,_,rfl,hd,_,_,_,_⟩:=id ho.el;obtain⟨C,e,D,g,rfl,hC,hD⟩:=id hf.sl;refine Jz Tryz.func164 Tryz.ntmps164 rfl kr rfl ?_;refine ρ ?_;refine bx ?_;intro w1 b1 ap bt aj;refine ρ ?_;refine mkRt row.length hm ?_;intro w2 O ao hO ag;have hO:=hO (λk=>N k∨(Value.slice O row.length row.length).ownBlock=some k);have a9:=ap.trans ao;have a3:∀ {k},(Value.slice O row.length row.length).ownBlock=some k->w.heap.size<=k:=fun {k} h=>by
  cases O with
  | none=>cases h
  | some ad=>injection h with h;subst h;exact nL ap.size (ag ad rfl)
 have ah:∀ k,(N k∨(Value.slice O row.length row.length).ownBlock=some k)->N k∨w.heap.size<=k:=λk y=>y.elim .inl λh=>.inr (a3 h);have hr:=hr.old RtC.sta (by decide) ah;have ho:=ho.old RtC.sta (by decide) ah;have hf:=hf.old ah;generalize hM:(λk=>N k∨(Value.slice O row.length row.length).ownBlock=some k)=M at *
 have b5:∀ g,(Value.slice O row.length row.length).ownBlock=some g->M g:=λg hg=>by rw[<-hM];exact .inr hg
 have bl:∀ {w5 w':World} {ls:List PR},OX 58 3 RtC M w5 w1.heap.size (.slice O row.length row.length) ls->Ext w w5->Ext w5 w'->∀ k,M k->k<w'.heap.size:=fun {w5 w' ls} h hx hx' k y=>by
  rw[<-hM]at y;rcases y with y|y
  .exact nM (hN k y) (hx.trans hx').size
  obtain⟨_,_,_,_,h3⟩:=id h.form;exact nM (h3 k y).2 hx'.size
 refine ρ ?_;refine cpX RtC.sta hO (by simp) (hr.ext RtC.sta (by decide) a9) h0 (by decide) (λcs a h=>h) RtC.one b5 ?_;intro w3 bj aw;have a8:Ext w w3:=Jt a9 aw λk y=>a3 y;have b6:Blk w3 b1 _ _:=(aj.ext ao).grown aw λe=>by
  have h1:=aj.lt;have:=a3 e.symm;cases O with
  | none=>cases e
  | some ad=>injection e with e;have:=ag ad rfl;omega
 refine ρ ?_;refine ldW b6 ?_;refine ρ ?_;refine cl (Ym (hf.ext a8) hsf.len) ?_;rintro _ w4 ⟨rfl,ac⟩;have b4:=bj.ext RtC.sta ac;have bm:=b6.ext ac;have a7:=a8.trans ac;have b7:∀ {w':World} {ls:List PR},OX 58 3 RtC M w' w1.heap.size (.slice O row.length row.length) ls->ls.length<=1000->GX 3 RtC N w' (.slice O row.length row.length) ls:=fun {w' ls} h hl=>h.gx RtC.sta om λk y=>⟨by rw[<-hM];exact .inl y,λe=>by have:=a3 e;have:=hN k y;omega⟩
 refine ρ ?_;refine ci (λh=>?_) (λh=>?_)
 .have hz:f.sign=0:=eq_of_beq h;refine ρ ?_;refine Jq ⟨?_,a7⟩;unfold Xh;rw[if_pos hz];exact b7 b4 hm
 have hz:f.sign≠0:=λe=>by rw[e]at h;simp at h
 have bf:Xh row other f=List.zipWith (Zu f) row other:=by unfold Xh;rw[if_neg hz];rfl
 have Z:(List.zipWith (Zu f) row other).length=row.length:=by simp[hl]
 refine ρ ?_;refine Jp (fun (k:Nat)=>[(1,.slice B other.length d),(5,.pointer (some ⟨b1,0,none⟩)),(7,.slice O row.length row.length),(20,.int .i64 (row.length:Int)),(21,.int .i64 (k:Int))])
  (λk w'=>k<=row.length/\Ext w w'/\Blk w' b1 58 [.bool f.neg,.slice C (Jj f.num).length e,.slice D (Jj f.den).length g]/\OX 58 3 RtC M w' w1.heap.size (.slice O row.length row.length) (mix (List.zipWith (Zu f) row other) row k)) (λk=>row.length-k) 0 sB ⟨Nat.zero_le _,a7,bm,by rw[Gm];exact b4⟩ ?_
 rintro k w5 ⟨y,J,ai,G⟩;have au:(mix (List.zipWith (Zu f) row other) row k).length=row.length:=Yt Z y;refine ρ ?_;refine ci (λh=>?_) (λh=>?_)
 .have U:k<row.length:=by have:=oT h;omega
  clear h;obtain⟨B',d',_,ev,_,_,aq,_,bd⟩:=id (ho.ext RtC.sta (by decide) J).el;injection ev with ev1 ev2 ev3
  subst ev1;obtain⟨ce,bs,be,az⟩:=bd k om;obtain⟨E,x1,F,x2,rfl,ar⟩:=be.sl;have bb:other[k]?=some other[k]:=gE om;have a2:=hs2 other[k] (List.getElem_mem _);have ae:row[k]?=some row[k]:=gE U;have b9:=hs row[k] (List.getElem_mem _);refine ρ ?_;refine ixq 3 k aq om ?_;refine ρ ?_;refine lds (λj u hu=>az j u hu) ?_;refine ρ ?_;refine cl (Ym ar a2.len) ?_;rintro _ w6 ⟨rfl,a5⟩;have am:(List.zipWith (Zu f) row other)[k]?=some (Zu f row[k] other[k]):=by simp[List.getElem?_zipWith,ae,bb]
  refine ρ ?_;refine ci (λh=>?_) (λh=>?_)
  .have ab:other[k].sign≠0:=λe=>by rw[e]at h;simp at h
   have ak:Zu f row[k] other[k]=PR.sub row[k] (PR.mul f other[k]):=by unfold Zu;rw[if_pos ab]
   have b8:Ext w6 w6.drew:=(Ext.refl w6).drew;have i:=a5.trans b8;have bi:=G.ext RtC.sta i;obtain⟨O',_,_,ev,_,af,ax⟩:=id bi.el;rw[au]at ev af;injection ev with ev1 ev2 ev3
   subst ev1;obtain⟨ce,bn,aa,ay⟩:=ax k om;have e2:(mix (List.zipWith (Zu f) row other) row k)[k]'(by omega)=row[k]:=by
    have:=Jzc Z U;rw[List.getElem?_eq_getElem om,ae]at this;injection this
   rw[e2]at aa;obtain⟨E2,y1,F2,y2,rfl,ba⟩:=aa.sl;refine ρ ?_;refine dr [(0,0),(0,1),(0,2),(0,3),(0,4),(0,5),(0,6),(0,7),(0,8),(0,9),(0,10),(1,11),(1,12),(0,13),(2,14)] kr ?_;refine ρd ?_;refine Qt 3 k af U ?_;refine ρd ?_;refine Qw (λj u hu=>ay j u hu) ?_;refine ρd ?_;refine Qw (cs:=[.bool f.neg,.slice C _ e,.slice D _ g]) (λj u hu=>(ai.ext i).at hu) ?_;refine ρd ?_;refine Qt 3 k (aq.ext i) om ?_;refine ρd ?_;refine Qw (λj u hu=>Xz i (az j u hu)) ?_;refine ρd ?_;have bq:=hsf.n;have br:=hsf.d;have bo:=a2.n;have bp:=a2.d;refine dcl (Jwx ((hf.ext J).ext i) (ar.ext i) om om om om (hsf.mm a2)) ?_;rintro x7 w7 ⟨bh,a4⟩;refine⟨a4,?_⟩;refine ρd ?_;refine dcl (Qqf (ba.ext a4) bh (b9.sm hsf a2)) ?_;rintro x8 w8 ⟨b2,an⟩;refine⟨an,?_⟩;rw[<-ak]at b2;have a6:=a4.trans an;have a1:=i.trans a6;obtain⟨G1,g1,G2,g2,rfl,bg⟩:=b2.cell
   refine ρd ?_;refine Qt 3 k (af.ext a6) U ?_;refine ρd ?_;refine Jy ?_;refine stX RtC.sta (G.ext RtC.sta a1) au.symm (show k<_ by omega) (cs:=[.bool (Zu f row[k] other[k]).neg,.slice G1 _ g1,.slice G2 _ g2]) (a:=Zu f row[k] other[k]) (RtC.sta.old bg λj hj=>.inl ?_) b5 (Js rfl rfl rfl) ?_
   .exact bl G J (i.trans a4) j hj
   intro w9 b3 av;rw[Ys Z U am]at b3;refine ρ ?_;refine Jh (k+1) sO ⟨om,Jt (J.trans a1) av (λg hg=>a3 hg),(ai.ext a1).grown av ?_,b3⟩ om;intro e;have h1:=aj.lt;cases O with
   | none=>cases e
   | some ad=>injection e with e;have:=ag ad rfl;omega
  have ab:other[k].sign=0:=by simpa using h
  have ak:(List.zipWith (Zu f) row other)[k]?=row[k]?:=by rw[am,ae];unfold Zu;rw[if_neg (by simp[ab])]
  rw[Jvs Z U ak]at G;refine ρ ?_;exact Jh (k+1) sO ⟨om,J.trans a5,ai.ext a5,G.ext RtC.sta a5⟩ om
 have bc:k=row.length:=by have:=oF h;omega
 subst bc;rw[Jjn Z]at G;refine ρ ?_;refine Jq ⟨?_,J⟩;rw[bf];exact b7 G om
end Go.Proofs.YtebiphhfkdbpfaaGreatDoor
namespace Go.Wk
open Go.RowKit
variable {n ty:Nat}
theorem stF{P:Program}{al:AL}{w:World}{Q:Exit->Act->World->Prop}{ops:Array Oper}{rest:List Oper}{pos:String}{aft:Array Edge}{tt:TT}[h:Tab P tt]{x y:Operand}{t g bt i:Nat}{k:TK}{u v:Value}{cs:List Value}(hb:Blk w g bt cs)(hu:cs[i]?=some u)(kk:∀ w1,Blk w1 g bt (cs.set i v)->w.grownBy w1 (some g)->WL P n ops Q rest al w1)(ht:tk tt t=some k:=by rfl)(hk:k.size=1:=by rfl)(hp:Xp k.desc=true:=by rfl)(hx:ev al x=some (.pointer (some ((⟨g,0,none⟩:Addr).add i))):=by rfl)(hy:ev al y=some v:=by rfl)(hv:v.oneCell'=true:=by rfl):
  WL P n ops Q (⟨none,.store t x y,ty,pos,aft,none⟩::rest) al w:=by
 have e:(⟨g,0,none⟩:Addr).add i=⟨g,i,none⟩:=by rw[Uq,Nat.zero_add]
 refine sto (hb.at hu) ?_ (kk _ ?_ ⟨rfl,rfl,rfl,by simp[World.setCell],λk hk hn=>Below.heap_setCell w _ v k (λj=>hn (by rw[j,e]))⟩) ht hk hp hx hy hv
 .rw[e];exact hb.frozen i
 rw[e];exact hb.set i v
end Go.Wk
namespace Go.Proofs.YtebiphhfkdbpfaaGreatDoor
open Go.RowKit Pl Go.Wk
attribute [local irreducible] WC WL QX WD WDB WP WN WG WH
variable {cs xs':List Value}{b base base' e' k m m' n sz':Nat}{w:World}
theorem EMx: ElT Tryz.prog 122 56 1 24 (.slice none 0 0):=⟨Tryz.underlying122,info_parts kr,rfl,by decide⟩
def MxC(N:Nat->Prop)(w:World)(cs:List Value)(l:List PR): Prop:=∃ v,cs=[v]/\GX 3 RtC N w v l
theorem MxC.sta: Sta MxC:=⟨λ⟨v,e,h⟩ i=>⟨v,e,h.gr RtC.sta (by decide) i⟩,λ⟨v,e,h⟩ j=>⟨v,e,h.old RtC.sta (by decide) j⟩⟩
def TN(b:Nat)(vr vb:Value): Nat->Prop:=λk=>k=b∨vr.ownBlock=some k∨vb.ownBlock=some k
structure TbV(w:World)(base b:Nat)(vr vg vb:Value)(t:PT): Prop where
 blk:Blk w b 182 [.int .i64 (t.n:Int),.int .i64 (t.m:Int),vr,vg,vb]
 rows:OX 56 1 MxC (TN b vr vb) w base vr t.rows
 goal:GX 3 RtC (TN b vr vb) w vg t.goal
 bas:Zx w base vb t.basis
section
variable {w w':World} {base b:Nat} {vr vg vb:Value} {t:PT}
theorem TbV.ext(h:TbV w base b vr vg vb t)(hx:Ext w w'): TbV w' base b vr vg vb t:=⟨h.blk.ext hx,h.rows.ext MxC.sta hx,h.goal.ext RtC.sta (by decide) hx,Ju h.bas hx⟩
theorem TbV.lt(h:TbV w base b vr vg vb t): ∀ k,TN b vr vb k->k<w.heap.size:=λk i=>by
 rcases i with i|i|i
 .rw[i];exact h.blk.lt
 .obtain⟨_,_,_,_,j⟩:=id h.rows.form;exact(j k i).2
 obtain⟨_,_,_,_,j⟩:=Jf h.bas;exact(j k i).2
theorem TbV.ne1(h:TbV w base b vr vg vb t): vr.ownBlock≠some b:=λe=>by
 obtain⟨ps,_,i,_⟩:=id h.rows;exact h.blk.ne_own i kr e.symm
theorem TbV.ne2(h:TbV w base b vr vg vb t): vb.ownBlock≠some b:=λe=>h.blk.ne_own h.bas kr e.symm
end
theorem Jxr{v v':Value}{cs:List Nat}(h:Zx w base v cs)(h':w.ownsRow base' e' sz' v' m' xs')(hne:Nat.beq 3 e'=false)(h1:v.ownBlock=some k)(h2:v'.ownBlock=some k): False:=by
 rcases h.2 with⟨e,_⟩|⟨g,cap,cur,e,_,hg,_⟩
 .rw[e]at h1;cases h1
 rcases h'.2 with⟨i,_⟩|⟨g',cap',cur',i,_,hg',_⟩
 .rw[i]at h2;cases h2
 rw[e]at h1;rw[i]at h2;injection h1 with h1;injection h2 with h2
 simp only at h1 h2;rw[h1]at hg;rw[h2]at hg';rw[hg]at hg';injection hg' with hg'
 injection hg' with _ hg' _
 rw[hg']at hne;simp at hne
theorem Gy(hB:Blk w b 182 cs)(h0:cs[0]?=some (.int .i64 (n:Int)))(h1:cs[1]?=some (.int .i64 (m:Int)))(hn:n<=1000)(hm:m<=1000):
  Ret Tryz.prog 97 [.pointer (some ⟨b,0,none⟩)] w λu w'=>u=.int .i64 ((n+m+1:Nat):Int)/\Ext w w':=by
 refine Jz Tryz.func97 Tryz.ntmps97 rfl kr rfl ?_;have i:Ext w w.drew:=(Ext.refl w).drew;have j:=hB.ext i;refine ρ ?_;refine dr [(0,0),(0,1),(0,2),(0,3),(0,4),(0,5),(0,6),(0,7),(0,8),(0,9),(0,10)] kr ?_;refine ρd ?_;refine dld (j.at h0) ?_;refine ρd ?_;refine dld (j.at h1) ?_;refine ρd ?_;refine ρ ?_;refine Jq ⟨?_,i⟩;rfl
theorem Qfs(hB:Blk w b 182 cs)(h0:cs[0]?=some (.int .i64 (n:Int)))(h1:cs[1]?=some (.int .i64 (m:Int)))(hn:n<=1000)(hm:m<=1000):
  Ret Tryz.prog 160 [.pointer (some ⟨b,0,none⟩)] w λu w'=>u=.int .i64 ((n+m:Nat):Int)/\Ext w w':=by
 refine Jz Tryz.func160 Tryz.ntmps160 rfl kr rfl ?_;have i:Ext w w.drew:=(Ext.refl w).drew;have j:=hB.ext i;refine ρ ?_;refine dr [(0,0),(0,1),(0,2),(0,3),(0,4),(0,5),(0,6),(0,7),(0,8),(0,9)] kr ?_;refine ρd ?_;refine dld (j.at h0) ?_;refine ρd ?_;refine dld (j.at h1) ?_;refine ρd ?_;refine ρ ?_;refine Jq ⟨?_,i⟩;rfl
open Go.RowKit Pl Go.Wk
variable {c r:Nat}{vb vg vg' vr:Value}
def pvr(t:PT)(r c:Nat): List PR:=dvR (t.rows.getD r []) ((t.rows.getD r []).getD c pr0)
def Yp(t:PT)(r c:Nat): List (List PR):=t.rows.mapIdx λi row=>if i=r then row else Xh row (pvr t r c) (row.getD c pr0)
theorem Yj(t:PT)(r c:Nat): (Yp t r c).length=t.rows.length:=by simp[Yp]
theorem Jfs(t:PT)(hr:r<t.rows.length): (Yp t r c).set r (pvr t r c)=(t.pivot r c).rows:=by
 refine List.ext_getElem? λi=>?_;have e:(t.pivot r c).rows=t.rows.mapIdx λi j=>if i=r then pvr t r c else Xh j (pvr t r c) (j.getD c pr0):=rfl
 rw[e];by_cases h:r=i
 .subst h;rw[List.getElem?_set_self (by rw[Yj];exact hr),List.getElem?_mapIdx,List.getElem?_eq_getElem hr];simp
 rw[List.getElem?_set_ne h,Yp,List.getElem?_mapIdx,List.getElem?_mapIdx];cases t.rows[i]? with
 | none=>rfl
 | some x=>
  have hi:¬ i=r:=λe=>h e.symm;simp[hi]
theorem nzS(l:List Nat)(i x:Nat): (Jl (nz l)).set i (.int .i64 (x:Int))=Jl (nz (l.set i x)):=by simp[Jl,nz,List.map_set]
section
variable {w w':World} {base b:Nat} {vr vg vb:Value} {t:PT}
theorem TbV.rowsT(h:TbV w base b vr vg vb t){rows':List (List PR)}(ho:OX 56 1 MxC (TN b vr vb) w' base vr rows')(hg:w.grownBy w' vr.ownBlock): TbV w' base b vr vg vb ⟨t.n,t.m,rows',t.goal,t.basis⟩:=by
 obtain⟨ps,_,i,_⟩:=id h.rows;refine⟨h.blk.grown hg (λe=>h.ne1 e.symm),ho,h.goal.gr RtC.sta (by decide) (GrN.by hg λk j=>.inr (.inl j)),Qn h.bas (N:=λk=>vr.ownBlock=some k) (GrN.by hg λk j=>j) λg y u=>Jxr h.bas i kr y u⟩
theorem TbV.goalT(h:TbV w base b vr vg vb t){goal':List PR}(hB:Blk w' b 182 [.int .i64 (t.n:Int),.int .i64 (t.m:Int),vr,vg',vb])(hG:GX 3 RtC (TN b vr vb) w' vg' goal')(hg:w.grownBy w' (some b)): TbV w' base b vr vg' vb ⟨t.n,t.m,t.rows,goal',t.basis⟩ :=
 ⟨hB,h.rows.gr MxC.sta (M:=λk=>k=b) (GrN.by hg λk i=>by injection i with i;exact i.symm) λk i=>⟨.inl i,λe=>h.ne1 (by rw[e,i])⟩,hG,Qn h.bas (N:=λk=>k=b) (GrN.by hg λk i=>by injection i with i;exact i.symm) λg u j=>h.ne2 (by rw[u,j])⟩
theorem TbV.basT(h:TbV w base b vr vg vb t){basis':List Nat}(ho:Zx w' base vb basis')(hg:w.grownBy w' vb.ownBlock): TbV w' base b vr vg vb ⟨t.n,t.m,t.rows,t.goal,basis'⟩:=by
 obtain⟨ps,_,j,_⟩:=id h.rows;exact⟨h.blk.grown hg (λe=>h.ne2 e.symm),h.rows.gr MxC.sta (M:=λk=>vb.ownBlock=some k) (GrN.by hg λk i=>i) λk i=>⟨.inr (.inr i),λe=>Jxr h.bas j kr i e⟩,h.goal.gr RtC.sta (by decide) (GrN.by hg λk i=>.inr (.inr i)),ho⟩
end
structure TSl(t:PT): Prop where
 row:∀ l∈t.rows,∀ q∈l,Sl q
 goal:∀ q∈t.goal,Sl q
theorem Qxh{w:World}{base b:Nat}{t:PT}(hT:TbV w base b vr vg vb t)(hp:POk t)(hs:TSl t)(hs':TSl (t.pivot r c))(hr:r<t.m)(hc:c<t.n+t.m+1)(hz:((t.rows.getD r []).getD c pr0).norm.num≠0)(hn:t.n<=100)(hm:t.m<=100)(hbase:base<=w.heap.size):
  Ret Tryz.prog 162 [.pointer (some ⟨b,0,none⟩),.int .i64 (r:Int),.int .i64 (c:Int)] w λu w'=>u=.tuple #[]/\∃ vg',TbV w' base b vr vg' vb (t.pivot r c)/\GrN (TN b vr vb) w w':=by
 have a5:r<t.rows.length:=by rw[hp.rows];exact hr
 have hL:t.rows[r]?=some (t.rows.getD r []):=by rw[List.getElem?_eq_getElem a5];simp[List.getD,List.getElem?_eq_getElem a5]
 obtain⟨av,dt⟩:=hp.row r hr;generalize hrow:t.rows.getD r []=row at *
 have bm:t.right+1=t.n+t.m+2:=rfl;rw[bm]at av;have af:c<row.length:=om
 have e4:t.rows.length<=100:=by rw[hp.rows];exact hm
 have c2:row∈t.rows:=List.mem_of_getElem? hL;have d3:t.rows[r]=row:=by rw[List.getElem?_eq_getElem a5]at hL;injection hL
 refine Jz Tryz.func162 Tryz.ntmps162 rfl kr rfl ?_;obtain⟨R,rc,_,rfl,e3,co,db⟩:=id hT.rows.el;obtain⟨ce,e7,⟨ds,rfl,hG⟩,bs⟩:=db r a5;rw[d3]at hG;obtain⟨A,ac,_,rfl,e8,_,ea,_,e9⟩:=id hG.el;have ai:∀ {w'},Ext w w'->w'.cell? (adr R r)=some (.slice A row.length ac):=λhx=>by
  have:=Xz hx (bs 0 _ rfl);rwa [Nat.mul_one,add_zero]at this
 refine ρ ?_;refine ld (hT.blk.at (i:=2) rfl) ?_;refine ρ ?_;refine ix r co a5 ?_;refine ρ ?_;refine ld (ai (Ext.refl w)) ?_;refine ρ ?_;refine mkRt row.length om ?_;intro w1 O au hO de;have az:∀ {k},(Value.slice O row.length row.length).ownBlock=some k->w.heap.size<=k:=fun {k} h=>by
  cases O with
  | none=>cases h
  | some ad=>injection h with h;subst h;exact de ad rfl
 have ck:=hT.lt;have d9:∀ k,TN b (.slice R t.rows.length rc) vb k->(Value.slice O row.length row.length).ownBlock≠some k:=λk Z e=>by have:=az e;have:=ck k Z;omega
 have hO:=hO (λk=>TN b (.slice R t.rows.length rc) vb k∨(Value.slice O row.length row.length).ownBlock=some k);have dh:∀ k,(TN b (.slice R t.rows.length rc) vb k∨(Value.slice O row.length row.length).ownBlock=some k)->TN b (.slice R t.rows.length rc) vb k∨w.heap.size<=k:=λk Z=>Z.elim .inl λh=>.inr (az h);have dl:=hG.old RtC.sta (by decide) dh;generalize hM:(λk=>TN b (.slice R t.rows.length rc) vb k∨(Value.slice O row.length row.length).ownBlock=some k)=M at *
 have ag:∀ g,(Value.slice O row.length row.length).ownBlock=some g->M g:=λg hg=>by rw[<-hM];exact .inr hg
 have da:=hT.ext au;refine ρ ?_;refine ld (da.blk.at (i:=2) rfl) ?_;refine ρ ?_;refine ix r (co.ext au) a5 ?_;refine ρ ?_;refine ld (ai au) ?_;refine ρ ?_;refine cpX RtC.sta hO (by simp) (dl.ext RtC.sta (by decide) au) om (by decide) (λcs a h=>h) RtC.one ag ?_;intro w2 bt hg2;have bw:Ext w w2:=Jt au hg2 λk Z=>az Z;obtain⟨O',oc,_,ev,_,dg,df⟩:=id bt.el;injection ev with ev1 ev2 ev3
 subst ev1;obtain⟨ce,dz,d5,aj⟩:=df c af;obtain⟨C,cc,D,dc,rfl,ca⟩:=d5.sl;have cb:row[c]=row.getD c pr0:=by simp[List.getD,List.getElem?_eq_getElem af]
 rw[cb]at ca aj;have bl:Sl (row.getD c pr0):=by rw[<-cb];exact hs.row row c2 _ (List.getElem_mem _)
 generalize hdd:row.getD c pr0=dv at *
 refine ρ ?_;refine ixq 3 c dg af ?_;refine ρ ?_;refine lds (λj u hu=>aj j u hu) ?_;refine ρ ?_;refine alc Zy ?_;intro w3 b3 cx d7 dn;refine ρ ?_;refine stb (cs':=[.bool dv.neg,.slice C _ cc,.slice D _ dc]) dn ?_ (Js rfl rfl rfl);intro w4 dm e6 cw;have ah:Ext w2 w4:=cw w2 cx d7;refine ρ ?_;have ba:∀ k,M k->k<w2.heap.size:=λk Z=>by
  rw[<-hM]at Z;rcases Z with Z|Z
  .exact nM (ck k Z) bw.size
  obtain⟨_,_,_,_,h3⟩:=id bt.form;exact(h3 k Z).2
 have ae:(dvR row dv).length=row.length:=by simp[dvR]
 refine Jp (fun (k:Nat)=>[(0,.pointer (some ⟨b,0,none⟩)),(1,.int .i64 (r:Int)),(2,.int .i64 (c:Int)),(6,.slice O row.length row.length),(7,.pointer (some ⟨b3,0,none⟩)),(33,.int .i64 (row.length:Int)),(34,.int .i64 (k:Int))])
  (λk w'=>k<=row.length/\Ext w w'/\Blk w' b3 58 [.bool dv.neg,.slice C (Jj dv.num).length cc,.slice D (Jj dv.den).length dc]/\OX 58 3 RtC M w' w.heap.size (.slice O row.length row.length) (mix (dvR row dv) row k)/\RtX M w' (.agg #[.bool dv.neg,.slice C (Jj dv.num).length cc,.slice D (Jj dv.den).length dc]) dv/\w2.heap.size<=w'.heap.size) (λk=>row.length-k) 0 sB ⟨Nat.zero_le _,bw.trans ah,dm,by rw[Gm];exact bt.ext RtC.sta ah,ca.ext ah,ah.size⟩ ?_
 rintro k w5 ⟨Z,ar,b1,a9,ax,am⟩;have bo:(mix (dvR row dv) row k).length=row.length:=Yt ae Z;refine ρ ?_;refine ci (λh=>?_) (λh=>?_)
 .have y:k<row.length:=by have:=oT h;omega
  clear h;obtain⟨O2,_,_,ev,_,b5,c9⟩:=id a9.el;rw[bo]at ev b5;injection ev with ev1 ev2 ev3
  subst ev1;obtain⟨ce,e0,be,bf⟩:=c9 k om;have ab:row[k]?=some row[k]:=gE y;have e2:(mix (dvR row dv) row k)[k]'(by omega)=row[k]:=by
   have:=Jzc ae y;rw[List.getElem?_eq_getElem om,ab]at this;injection this
  rw[e2]at be;obtain⟨E2,y1,F2,y2,rfl,c1⟩:=be.sl;have b4:=hs.row row c2 row[k] (List.getElem_mem _);have b2:(dvR row dv)[k]?=some (if row[k].sign≠0 then PR.div row[k] dv else row[k]):=by simp[dvR,ab]
  refine ρ ?_;refine ixq 3 k b5 y ?_;refine ρ ?_;refine lds (λj u hu=>bf j u hu) ?_;refine ρ ?_;refine cl (Ym c1 b4.len) ?_;rintro _ w6 ⟨rfl,ak⟩;refine ρ ?_;refine ci (λh=>?_) (λh=>?_)
  .have bj:row[k].sign≠0:=λe=>by rw[e]at h;simp at h
   rw[if_pos bj]at b2;have a8:Ext w6 w6.drew:=(Ext.refl w6).drew;have a4:=ak.trans a8;refine ρ ?_;refine drH (λi=>i == 12) ?_;refine Vy (fuel':=2) 14 [(0,0),(0,1),(0,2),(0,3),(0,4),(0,5),(0,6),(1,7),(0,8),(0,9),(0,11)] #[true,true,true,true,true,true,true,true,true,true,false,true,false] kr kr rfl ?_;refine ρd ?_;refine Qt 3 k (b5.ext a4) y ?_;refine ρd ?_;refine Qw (λj u hu=>Xz a4 (bf j u hu)) ?_;refine ρd ?_;refine Qw (cs:=[.bool dv.neg,.slice C _ cc,.slice D _ dc]) (λj u hu=>(b1.ext a4).at hu) ?_;refine ρd ?_;have f1:=b4.n;have f2:=b4.d;have f3:=bl.n;have f4:=bl.d;have f5:row[k].den*dv.num<=120*720:=Nat.mul_le_mul f2 f3;refine dcl (Jfq (c1.ext a4) (ax.ext a4) hz b4.d0 bl.d0 om om om om om) ?_;rintro _ w7 ⟨⟨x7,rfl,d8⟩,a3⟩;refine⟨a3,?_⟩;have B:=a4.trans a3;obtain⟨G1,g1,G2,g2,rfl,cg⟩:=d8.cell;refine ρd ?_
   refine Qt 3 k (b5.ext B) y ?_;refine ρd ?_;refine Zw ?_;refine Jjq 10 12 kr rfl rfl rfl ?_ ?_
   .refine ρ ?_;refine Qf (λ_=>Ext.refl _) ?_;refine Xu 12 kr rfl rfl ?_;refine stX RtC.sta (a9.ext RtC.sta B) bo.symm (show k<_ by omega) (cs:=[.bool (PR.div row[k] dv).neg,.slice G1 _ g1,.slice G2 _ g2]) (a:=PR.div row[k] dv) (RtC.sta.old cg λj hj=>.inl (nM (ba j hj) (nL am a4.size))) ag (Js rfl rfl rfl) ?_;intro w8 aa a1;rw[Ys ae y b2]at aa;have aw:GrN M w7 w8:=GrN.by a1 ag
    refine ρ ?_;refine Qf (λh=>absurd h (by decide)) ?_;refine Xn kr ?_;refine ρ ?_;refine Jh (k+1) sO ⟨om,Jt (ar.trans B) a1 (λg hg=>az hg),(b1.ext B).grown a1 ?_,aa,(ax.ext B).gr aw,Nat.le_trans am (nL B.size a1.size)⟩ om;intro e;have h1:=ba b3 (ag b3 e.symm);omega
   refine ρ ?_;refine stX RtC.sta (a9.ext RtC.sta B) bo.symm (show k<_ by omega) (cs:=[.bool (PR.div row[k] dv).neg,.slice G1 _ g1,.slice G2 _ g2]) (a:=PR.div row[k] dv) (RtC.sta.old cg λj hj=>.inl (nM (ba j hj) (nL am a4.size))) ag (Js rfl rfl rfl) ?_;intro w8 aa a1;rw[Ys ae y b2]at aa;have aw:GrN M w7 w8:=GrN.by a1 ag
   refine ρ ?_;refine Qf (λh=>absurd h (by decide)) ?_;refine Xu 10 kr rfl rfl ?_;refine ρ ?_;refine Qf (λ_=>Ext.refl _) ?_;refine Xn kr ?_;refine ρ ?_;refine Jh (k+1) sO ⟨om,Jt (ar.trans B) a1 (λg hg=>az hg),(b1.ext B).grown a1 ?_,aa,(ax.ext B).gr aw,Nat.le_trans am (nL B.size a1.size)⟩ om;intro e;have h1:=ba b3 (ag b3 e.symm);omega
  have bj:row[k].sign=0:=by simpa using h
  have dq:(dvR row dv)[k]?=row[k]?:=by rw[b2,ab,if_neg (by simp[bj])]
  rw[Jvs ae y dq]at a9;refine ρ ?_;exact Jh (k+1) sO ⟨om,ar.trans ak,b1.ext ak,a9.ext RtC.sta ak,ax.ext ak,Nat.le_trans am ak.size⟩ om
 have bq:k=row.length:=by have:=oF h;omega
 clear h Z;subst bq;rw[Jjn ae]at a9;have c4:dvR row dv=pvr t r c:=by unfold pvr;rw[hrow,hdd]
 have c5:(pvr t r c).length=row.length:=by rw[<-c4];exact ae
 rw[c4]at a9;have cm:=hT.ext ar;have d4:GX 3 RtC (TN b (.slice R t.rows.length rc) vb) w5 (.slice O row.length row.length) (pvr t r c):=a9.gx RtC.sta om λk Z=>⟨by rw[<-hM];exact .inl Z,d9 k Z⟩;clear a9 ax b1 am;refine ρ ?_;refine ld (cm.blk.at (i:=2) rfl) ?_;have cz:pvr t r c∈(t.pivot r c).rows:=by rw[<-Jfs t a5];exact List.mem_set (by rw[Yj];exact a5) _
 have bz:∀ q∈pvr t r c,Sl q:=hs'.row _ cz;have J:∀ i (hi:i<t.rows.length),t.rows[i].length=row.length:=λi hi=>by
  have:=(hp.row i (by rw[<-hp.rows];exact hi)).1;rw[List.getD,List.getElem?_eq_getElem hi,bm]at this;rw[av];exact this
 refine ρ ?_;refine Jp (fun (k:Nat)=>[(0,.pointer (some ⟨b,0,none⟩)),(1,.int .i64 (r:Int)),(2,.int .i64 (c:Int)),(6,.slice O row.length row.length),(60,.int .i64 (t.rows.length:Int)),(61,.int .i64 (k:Int))])
  (λk w'=>k<=t.rows.length/\TbV w' base b (.slice R t.rows.length rc) vg vb ⟨t.n,t.m,mix (Yp t r c) t.rows k,t.goal,t.basis⟩/\GX 3 RtC (TN b (.slice R t.rows.length rc) vb) w' (.slice O row.length row.length) (pvr t r c)/\GrN (TN b (.slice R t.rows.length rc) vb) w w') (λk=>t.rows.length-k) 0 sB
  ⟨Nat.zero_le _,by rw[Gm];exact cm,d4,GrN.ext ar⟩ ?_
 rintro k w6 ⟨Z,ap,b9,hg6⟩;have bn:(mix (Yp t r c) t.rows k).length=t.rows.length:=Yt (Yj t r c) Z;refine ρ ?_;refine ci (λh=>?_) (λh=>?_)
 .have y:k<t.rows.length:=by have:=oT h;omega
  clear h;have ab:t.rows[k]?=some t.rows[k]:=gE y;have b6:(Yp t r c)[k]?=some (if k=r then t.rows[k] else Xh t.rows[k] (pvr t r c) (t.rows[k].getD c pr0)):=by simp[Yp,ab]
  refine ρ ?_;refine ci (λh=>?_) (λh=>?_)
  .have bp:k≠r:=λe=>by subst e;simp at h
   rw[if_neg bp]at b6;have a8:Ext w6 w6.drew:=(Ext.refl w6).drew;have a2:=ap.ext a8;have aq:=b9.ext RtC.sta (by decide) a8;obtain⟨R',cu,_,ev,_,a6,bi⟩:=id a2.rows.el;simp only[bn]at ev a6 bi;injection ev with ev1 ev2 ev3
   subst ev1;obtain⟨ce,dx,⟨vk,rfl,bu⟩,d6⟩:=bi k y;have e2:(mix (Yp t r c) t.rows k)[k]'(by omega)=t.rows[k]:=by
    have:=Jzc (Yj t r c) y;rw[List.getElem?_eq_getElem om,ab]at this;injection this
   rw[e2]at bu;obtain⟨K,kc,_,ek,e5,_,cq,_,di⟩:=id bu.el;rw[J k y]at ek cq;subst ek;obtain⟨ce,dw,bd,b8⟩:=di c (by rw[J k y];exact af);have bc:t.rows[k][c]'(by rw[J k y];exact af)=t.rows[k].getD c pr0:=by simp[List.getD,List.getElem?_eq_getElem (show c<t.rows[k].length by rw[J k y];exact af)]
   rw[bc]at bd;have c0:Sl (t.rows[k].getD c pr0):=by rw[<-bc];exact hs.row _ (List.getElem_mem _) _ (List.getElem_mem _)
   obtain⟨E1,x1,E2,x2,rfl,d1⟩:=bd.sl;have bg:w6.drew.cell? (adr R k)=some (.slice K row.length kc):=by
    have:=d6 0 _ rfl;rwa [Nat.mul_one,add_zero]at this
   refine ρ ?_;refine dr [(0,0),(0,1),(0,2),(0,3),(0,4),(0,5),(0,6),(0,7),(0,8),(0,9),(0,10),(0,11),(0,12),(0,13),(0,14),(0,15),(0,16),(0,17),(0,18),(0,19),(0,20),(0,21),(0,22),(1,23),(0,24),(2,25)] kr ?_;refine ρd ?_;refine dld (a2.blk.at (i:=2) rfl) ?_;refine ρd ?_;refine dld (a2.blk.at (i:=2) rfl) ?_;refine ρd ?_;refine dix k a6 y ?_;refine ρd ?_;refine dld bg ?_;refine ρd ?_;refine dld (a2.blk.at (i:=2) rfl) ?_;refine ρd ?_;refine dix k a6 y ?_;refine ρd ?_;refine dld bg ?_;refine ρd ?_;refine Qt 3 c cq af ?_;refine ρd ?_;refine Qw (λj u hu=>b8 j u hu) ?_;refine ρd ?_;refine dcl (Jnh bu aq d1 a2.lt (by rw[c5,J k y]) (by rw[J k y];omega) (by rw[J k y];omega) (hs.row _ (List.getElem_mem _)) bz c0) ?_;rintro u w7 ⟨hU,a3⟩;refine⟨a3,?_⟩;have ao:=a2.ext a3;obtain⟨U,uc,_,rfl,_,_,_,_,_⟩:=id hU.el;refine ρd ?_;refine dix k (a6.ext a3) y ?_;refine ρd ?_;refine Jy ?_
   refine stX1 MxC.sta ao.rows bn.symm (show k<_ by rw[bn];exact y) (u:=.slice U _ uc) (a:=Xh t.rows[k] (pvr t r c) (t.rows[k].getD c pr0)) ⟨_,rfl,hU⟩ (λg hg=>.inr (.inl hg)) rfl ?_;intro w8 aa a1;rw[Ys (Yj t r c) y b6]at aa;have an:=ao.rowsT aa a1;have a7:GrN (TN b (.slice R t.rows.length rc) vb) w7 w8:=GrN.by a1 λk Z=>.inr (.inl Z)
   refine ρ ?_;exact Jh (k+1) sO ⟨om,an,(aq.ext RtC.sta (by decide) a3).gr RtC.sta (by decide) a7,(hg6.trans (GrN.ext (a8.trans a3))).trans a7⟩ om
  have bp:k=r:=by
   have:((k:Int) == (r:Int))=true:=by simpa using h
   have:=eq_of_beq this;omega
  rw[if_pos bp]at b6;rw[Jvs (Yj t r c) y (by rw[b6,ab])]at ap;refine ρ ?_;exact Jh (k+1) sO ⟨om,ap,b9,hg6⟩ om
 have bq:k=t.rows.length:=by have:=oF h;omega
 clear h Z;subst bq;rw[Jjn (Yj t r c)]at ap;have a8:Ext w6 w6.drew:=(Ext.refl w6).drew;have a2:=ap.ext a8;have aq:=b9.ext RtC.sta (by decide) a8;have b7:=hp.goal.1;rw[bm]at b7;obtain⟨G,gc,_,rfl,_,_,dk,_,dj⟩:=id a2.goal.el;have br:c<t.goal.length:=om
 obtain⟨ce,du,bh,cd⟩:=dj c br;have bb:t.goal[c]=t.goal.getD c pr0:=by simp[List.getD,List.getElem?_eq_getElem br]
 simp only[bb]at bh;have cy:Sl (t.goal.getD c pr0):=by rw[<-bb];exact hs.goal _ (List.getElem_mem _)
 obtain⟨E1,x1,E2,x2,rfl,d2⟩:=bh.sl;refine ρ ?_;refine drC 18 [0,1,5,6,10] [(0,2),(0,3),(0,4),(0,7),(0,8),(0,9),(0,11),(0,12),(1,13),(0,14),(0,15),(2,16)] kr ?_;refine ρp ?_;refine ρd ?_;refine dld (a2.blk.at (i:=3) rfl) ?_;refine ρd ?_;refine dld (a2.blk.at (i:=3) rfl) ?_;refine ρd ?_;refine Qt 3 c dk br ?_;refine ρd ?_;refine Qw (λj u hu=>cd j u hu) ?_;refine ρd ?_;refine dcl (Jnh a2.goal aq d2 a2.lt (by rw[c5,b7,av]) (by rw[b7];omega) (by rw[b7];omega) hs.goal bz cy) ?_;rintro u w7 ⟨hU,a3⟩;refine⟨a3,?_⟩;have ao:=a2.ext a3;obtain⟨U,uc,_,rfl,_,_,_,_,_⟩:=id hU.el;refine ρd ?_;refine Jy ?_;refine stF (i:=3) ao.blk rfl ?_;intro w8 cr a1;have a7:GrN (TN b (.slice R t.rows.length rc) vb) w7 w8:=GrN.by a1 λk Z=>by injection Z with Z;exact .inl Z.symm
 have an:=ao.goalT (vg':=.slice U _ uc) (goal':=Xh t.goal (pvr t r c) (t.goal.getD c pr0)) cr (hU.gr RtC.sta (by decide) a7) a1;have dd:=(aq.ext RtC.sta (by decide) a3).gr RtC.sta (by decide) a7;have c8:=(hg6.trans (GrN.ext (a8.trans a3))).trans a7;clear ao a2 ap aq b9 cr;obtain⟨R',cu,_,ev,_,a6,_⟩:=id an.rows.el;simp only[Yj]at ev a6;injection ev with ev1 ev2 ev3
 subst ev1;refine ρ ?_;refine ld (an.blk.at (i:=2) rfl) ?_;refine ρ ?_;refine ix r a6 a5 ?_;refine ρ ?_;refine stX1 MxC.sta an.rows (Yj t r c).symm (show r<_ by rw[Yj];exact a5) (u:=.slice O row.length row.length) (a:=pvr t r c) ⟨_,rfl,dd⟩ (λg hg=>.inr (.inl hg)) rfl ?_;intro w9 cp c7;rw[Jfs t a5]at cp;have ay:=an.rowsT cp c7;have c6:=c8.trans (GrN.by c7 λk Z=>.inr (.inl Z));obtain⟨S,sc,eS,e1,_⟩:=Jf ay.bas;subst eS;have ch:r<t.basis.length:=by rw[hp.basis];exact hr
 refine ρ ?_;refine ld (ay.blk.at (i:=4) rfl) ?_;refine ρ ?_;refine ix r (Rd.own ay.bas) ch ?_;refine ρ ?_;obtain⟨s1,s2,s3,s4,s5⟩:=Zk ay.bas (q:=r) (show r<t.basis.length*1 by omega) (.int .i64 (c:Int));refine sto (s1.trans (Xq ch)) s2 ?_;have cj:Zx (w9.setCell (adr S r) (.int .i64 (c:Int))) base (.slice S t.basis.length sc) (t.basis.set r c):=by
  rw[Zx,<-nzS,List.length_set];exact s3
 have cn:=ay.basT cj s5;refine ρ ?_;exact Zo ⟨rfl,_,cn,c6.trans (GrN.by s5 λk Z=>.inr (.inr Z))⟩
end Go.Proofs.YtebiphhfkdbpfaaGreatDoor
