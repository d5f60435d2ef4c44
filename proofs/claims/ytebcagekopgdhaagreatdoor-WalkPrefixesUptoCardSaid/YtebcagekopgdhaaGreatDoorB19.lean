/- Part 19. -/
import Derived.Test.YtebcagekopgdhaaGreatDoorB11
set_option linter.unusedVariables false
set_option maxRecDepth 100000
set_option maxHeartbeats 40000000
namespace Go.Proofs.YtebcagekopgdhaaGreatDoor
namespace Pl
def Jc: Nat->(Nat->Nat)->Nat
 | 0,_=>1
 | n+1,g=>Jc n g*g n
theorem Ur{n:Nat}{g h:Nat->Nat}(e:∀ c,c<n->g c=h c): Jc n g=Jc n h:=by
 induction n with
 | zero=>rfl
 | succ n ih=>rw [Jc,Jc,ih (λc o=>e c om),e n om]
theorem Qbm(n:Nat)(g h:Nat->Nat): Jc n (λc=>g c*h c)=Jc n g*Jc n h:=by
 induction n with
 | zero=>rfl
 | succ n ih=>rw [Jc,Jc,Jc,ih,Nat.mul_assoc,Nat.mul_assoc,Nat.mul_left_comm (Jc n h)]
theorem Jnv{n:Nat}{g:Nat->Nat}(e:∀ c,c<n->g c=1): Jc n g=1:=by
 induction n with
 | zero=>rfl
 | succ n ih=>rw [Jc,ih (λc o=>e c om),e n om]
theorem prodR_pos{n:Nat}{g:Nat->Nat}: 0<Jc n g↔∀ c,c<n->0<g c:=by
 induction n with
 | zero=>exact ⟨λ_ c o=>om,λ_=>Nat.one_pos⟩
 | succ n ih=>
  rw [Jc];constructor
  .intro h c o;have C:=Nat.pos_of_mul_pos_right h;have u:=Nat.pos_of_mul_pos_left h;by_cases e:c=n
   .rw [e];first|exact C|exact u
   .first|exact ih.1 C c (by omega)|exact ih.1 u c om
  .intro h;exact Nat.mul_pos (ih.2 λc o=>h c om) (h n om)
theorem Jcf{n k:Nat}{g:Nat->Nat}(hk:k<n): Jc n g=g k*Jc n (λc=>if c=k then 1 else g c):=by
 induction n with
 | zero=>omega
 | succ n ih=>
  rw [Jc,Jc];by_cases e:k=n
  .subst e;rw [if_pos rfl,Nat.mul_one,Nat.mul_comm];congr 1
   exact Ur λc u=>by rw [if_neg om]
  .rw [if_neg (λo=>e o.symm),ih om,Nat.mul_assoc]
section
variable {α:Type}
def tot: List (α×Nat)->Nat
 | []=>0
 | p::l=>p.2+tot l
theorem Jxq(l m:List (α×Nat)): tot (l++m)=tot l+tot m:=by
 induction l with
 | nil=>simp [tot]
 | cons p l ih=>rw [List.cons_append,tot,tot,ih,Nat.add_assoc]
theorem Qwc{l:List (α×Nat)}(h:∀ p∈l,0<p.2): 0<tot l↔l≠[]:=by
 cases l with
 | nil=>simp [tot]
 | cons p l=>have:=h p (mC ..);simp [tot];omega
def prj(d0:α)(cs:List Nat)(y:List α): List α:=cs.map λc=>y.getD c d0
theorem Qbn(d0:α)(cs:List Nat)(y:List α): (prj d0 cs y).length=cs.length:=by simp [prj]
theorem Jwm{d0:α}{cs:List Nat}{y z:List α}(h:∀ c∈cs,y.getD c d0=z.getD c d0): prj d0 cs y=prj d0 cs z:=List.map_congr_left h
theorem Jzp{d0:α}{y z:List α}{c:Nat}(h:c<y.length): (y++z).getD c d0=y.getD c d0:=by simp [List.getD,List.getElem?_append_left h]
structure AX(α:Type) where
 d0: α
 F:Nat
 ks:Nat->List Nat
 par:Nat->Int
 E:Nat->List α->List (α×Nat)
def AX.key(X:AX α)(c:Nat)(y:List α): List α:=prj X.d0 (X.ks c) y
def AX.T(X:AX α)(c:Nat)(y:List α): Nat:=tot (X.E c (X.key c y))
structure AX.Ok(X:AX α): Prop where
 kl:∀ v,v<X.F->∀ u∈X.ks v,(u:Int)<=X.par v
 pl:∀ v,v<X.F->-1<=X.par v/\X.par v<v
 wt:∀ v,v<X.F->∀ y,y.length=v->∀ p∈X.E v (X.key v y),0<p.2/\p.2=Jc X.F (λc=>if X.par c=v then X.T c (y++[p.1]) else 1)
def AX.pend(X:AX α)(m:Nat)(y:List α): Nat:=Jc X.F (λc=>if m<=c/\X.par c<m then X.T c y else 1)
def AX.others(X:AX α)(m:Nat)(y:List α): Nat:=Jc X.F (λc=>if m<c/\X.par c<m then X.T c y else 1)
def AX.ext(X:AX α): Nat->List α->List (List α)
 | 0,y=>[y]
 | n+1,y=>(X.E y.length (X.key y.length y)).flatMap λp=>X.ext n (y++[p.1])
variable {X:AX α}
theorem AX.Ok.key_pre(h:X.Ok){c:Nat}{y z:List α}(hc:c<X.F)(hp:X.par c<y.length): X.key c (y++z)=X.key c y :=
 Jwm λu o=>Jzp (by have:=h.kl c hc u o;omega)
theorem AX.Ok.T_pre(h:X.Ok){c:Nat}{y z:List α}(hc:c<X.F)(hp:X.par c<y.length): X.T c (y++z)=X.T c y:=by rw [AX.T,AX.T,h.key_pre hc hp]
theorem AX.Ok.pend_split(h:X.Ok){y:List α}(hm:y.length<X.F): X.pend y.length y=X.T y.length y*X.others y.length y:=by
 unfold AX.pend AX.others;rw [Jcf hm,if_pos ⟨Nat.le_refl _,(h.pl _ hm).2⟩];congr 1
 refine Ur λc u=>?_;by_cases e:c=y.length
 .rw [if_pos e,if_neg om]
 .rw [if_neg e];by_cases e2:y.length<c/\X.par c<y.length
  .rw [if_pos e2,if_pos ⟨om,e2.2⟩]
  .rw [if_neg e2,if_neg (λo=>e2 ⟨om,o.2⟩)]
theorem AX.Ok.pend_next(h:X.Ok){y:List α}(hm:y.length<X.F){p:α×Nat}(hp:p∈X.E y.length (X.key y.length y)): X.pend (y.length+1) (y++[p.1])=p.2*X.others y.length y:=by
 rw [(h.wt _ hm y rfl p hp).2];unfold AX.pend AX.others;rw [<-Qbm];refine Ur λc o=>?_;have u:=h.pl c o;by_cases e:X.par c=y.length
 .rw [if_pos e,if_neg (show ¬ (y.length<c/\X.par c<y.length) by omega),if_pos om,Nat.mul_one]
 .rw [if_neg e,Nat.one_mul];by_cases e2:y.length<c/\X.par c<y.length
  .rw [if_pos e2,if_pos om,h.T_pre o e2.2]
  .rw [if_neg e2,if_neg om]
theorem Jdv{β:Type}{f:α×Nat->List β}{O:Nat}: ∀ {l:List (α×Nat)},(∀ p∈l,(f p).length=p.2*O)->(l.flatMap f).length=tot l*O
 | [],_=>by simp [tot]
 | p::l,h=>by
  rw [List.flatMap_cons,List.length_append,h p (mC ..),Jdv λq hq=>h q (List.mem_cons_of_mem _ hq),tot,Nat.add_mul]
theorem Qhg{β:Type}{f:α×Nat->List β}{O k:Nat}{l1 l2:List (α×Nat)}{p:α×Nat}(h:∀ q∈l1++p::l2,(f q).length=q.2*O)(h1:tot l1*O<=k)(h2:k<(tot l1+p.2)*O): ((l1++p::l2).flatMap f)[k]?=(f p)[k-tot l1*O]?:=by
 have C:(l1.flatMap f).length=tot l1*O:=Jdv λq o=>h q (List.mem_append_left _ o);have u:=h p (List.mem_append_right _ (mC ..));rw [List.flatMap_append,List.flatMap_cons,List.getElem?_append_right om,C,List.getElem?_append_left];rw [u];rw [Nat.add_mul]at h2;omega
theorem AX.Ok.ext_len(h:X.Ok): ∀ (n:Nat) (y:List α),y.length+n=X.F->(X.ext n y).length=X.pend y.length y
 | 0,y,e=>by
  rw [AX.ext,AX.pend,Jnv];rfl;intro c hc;rw [if_neg om]
 | n+1,y,e=>by
  have hm:y.length<X.F:=om
  rw [AX.ext,h.pend_split hm,AX.T];refine Jdv λp hp=>?_;have:=h.ext_len n (y++[p.1]) (by simp;omega);rw [this,List.length_append,List.length_singleton,h.pend_next hm hp]
theorem AX.Ok.ext_at(h:X.Ok){n:Nat}{y:List α}(e:y.length+(n+1)=X.F){k:Nat}{l1 l2:List (α×Nat)}{p:α×Nat}(hE:X.E y.length (X.key y.length y)=l1++p::l2)(ho:0<X.others y.length y)(h1:tot l1<=k / X.others y.length y)(h2:k / X.others y.length y<tot l1+p.2):
  (X.ext (n+1) y)[k]?=(X.ext n (y++[p.1]))[(k / X.others y.length y-tot l1)*X.others y.length y+k % X.others y.length y]?/\(k / X.others y.length y-tot l1)*X.others y.length y+k % X.others y.length y<X.pend (y.length+1) (y++[p.1]):=by
 have o:y.length<X.F:=om
 have J:p∈X.E y.length (X.key y.length y):=by rw [hE];exact List.mem_append_right _ (mC ..)
 have u:∀ q∈X.E y.length (X.key y.length y),(X.ext n (y++[q.1])).length=q.2*X.others y.length y:=λq G=>by
  rw [h.ext_len n (y++[q.1]) (by simp;omega),List.length_append,List.length_singleton,h.pend_next o G]
 rw [h.pend_next o J,AX.ext];generalize X.others y.length y=O at *
 have hk:=Nat.div_add_mod k O;have hr:=Nat.mod_lt k ho;rw [hE]at u ⊢;have Z:tot l1*O<=k:=by
  have:=nO O h1;rw [Nat.mul_comm (k / O)]at this;omega
 have C:k<(tot l1+p.2)*O:=by
  have:=nO O h2;rw [Nat.succ_mul,Nat.mul_comm (k / O)]at this;omega
 have U:(k / O-tot l1)*O+k % O=k-tot l1*O:=by rw [Nat.sub_mul,Nat.mul_comm (k / O)];have:=nO O h1;rw [Nat.mul_comm (k / O)]at this;omega
 rw [Qhg u Z C,U];refine ⟨rfl,?_⟩;rw [Nat.add_mul]at C;omega
theorem AX.ext_mem: ∀ (n:Nat) (y x:List α),x∈X.ext n y↔x.length=y.length+n/\x.take y.length=y/\∀ v,y.length<=v->v<y.length+n->x.getD v X.d0∈(X.E v (X.key v (x.take v))).map (·.1)
 | 0,y,x=>by
  rw [AX.ext,List.mem_singleton];constructor
  .rintro rfl;exact ⟨rfl,List.take_length,λv h1 h2=>om⟩
  .rintro ⟨h1,h2,_⟩;rw [<-h2,List.take_of_length_le om]
 | n+1,y,x=>by
  rw [AX.ext,List.mem_flatMap];constructor
  .rintro ⟨p,hp,hx⟩;obtain ⟨h1,h2,h3⟩:=(AX.ext_mem n _ x).1 hx;rw [List.length_append,List.length_singleton]at h1 h2 h3;have hy:x.take y.length=y:=by
    have:=congrArg (List.take y.length) h2;rw [List.take_take,Nat.min_eq_left om,List.take_append_of_le_length (Nat.le_refl _),List.take_length]at this;exact this
   refine ⟨om,hy,λv h4 h5=>?_⟩;by_cases e:v=y.length
   .subst e;rw [hy];have:x.getD y.length X.d0=p.1:=by
     have:=congrArg (λl=>l.getD y.length X.d0) h2;simpa [List.getD] using this
    rw [this];exact List.mem_map_of_mem hp
   .exact h3 v om om
  .rintro ⟨h1,h2,h3⟩;obtain ⟨p,hp,e⟩:=List.mem_map.1 (h3 y.length (Nat.le_refl _) om);rw [h2]at hp;refine ⟨p,hp,(AX.ext_mem n _ x).2 ⟨?_,?_,λv h4 h5=>h3 v ?_ ?_⟩⟩
   .simp;omega
   .rw [List.length_append,List.length_singleton,e];have hl:y.length<x.length:=om
    rw [List.take_add_one,h2];congr 1
    simp [List.getD,List.getElem?_eq_getElem hl]
   .simp at h4;omega
   .simp at h5;omega
end
structure BX(α:Type) where
 d0: α
 N:Nat
 F:Nat
 K:Nat->List Nat
 par:Nat->Int
 pl:Nat->Nat
 ats:List (List Nat×List (List α))
 T:Nat->List α->Nat
 E:Nat->List α->List (α×Nat)
section
variable {α:Type}
def BX.bag(X:BX α)(v:Nat)(z:List α): Prop:=∀ a∈X.ats,∃ r∈a.2,∀ j,j<a.1.length->(a.1.getD j 0=v∨a.1.getD j 0∈X.K v)->r.getD j X.d0=z.getD (a.1.getD j 0) X.d0
def BX.W(X:BX α)(v:Nat)(z:List α): Nat:=Jc X.N (λc=>if X.par c=v then X.T c (prj X.d0 (X.K c) z) else 1)
structure BX.Ok(X:BX α): Prop where
 FN:X.F<=X.N
 plN:∀ v,v<X.N->X.pl v<X.N
 inj:∀ u v,u<X.N->v<X.N->X.pl u=X.pl v->u=v
 k1:∀ v,v<X.N->∀ u∈X.K v,u<X.N/\X.pl v<X.pl u
 k2:∀ v,v<X.N->(X.K v=[]/\X.par v = -1)∨∃ p:Nat,X.par v=p/\p∈X.K v/\∀ u∈X.K v,X.pl p<=X.pl u
 k3:∀ v,v<X.N->∀ p:Nat,X.par v=p->∀ x∈X.K v,x=p∨x∈X.K p
 k4:∀ a∈X.ats,∀ v∈a.1,(∀ u∈a.1,X.pl v<=X.pl u)->∀ u∈a.1,u=v∨u∈X.K v
 k5:∀ u v,u<X.F->v<u->X.pl u<X.pl v
 k6:∀ u v,u<X.F->X.F<=v->v<X.N->X.pl v<X.pl u
 al:∀ a∈X.ats,(∀ u∈a.1,u<X.N)/\∀ r∈a.2,r.length=a.1.length
 t1:∀ v,X.F<=v->v<X.N->∀ k,X.T v k<=1/\(0<X.T v k↔∃ z,z.length=X.N/\X.bag v z/\prj X.d0 (X.K v) z=k/\0<X.W v z)
 t2:∀ v,v<X.F->∀ k,X.T v k=tot (X.E v k)/\∀ p,p∈X.E v k↔∃ z,z.length=X.N/\X.bag v z/\prj X.d0 (X.K v) z=k/\z.getD v X.d0=p.1/\p.2=X.W v z/\0<p.2
def BX.Join(X:BX α)(z:List α): Prop:=z.length=X.N/\∀ a∈X.ats,prj X.d0 a.1 z∈a.2
def BX.Roots(X:BX α): Prop:=(∀ v,v<X.N->X.par v = -1->0<X.T v [])/\∀ a∈X.ats,a.2≠[]
variable {X:BX α}
theorem Iv(d0:α){cs:List Nat}{y:List α}{j:Nat}(h:j<cs.length): (prj d0 cs y).getD j d0=y.getD (cs.getD j 0) d0:=by
 simp [prj,List.getD,List.getElem?_eq_getElem h]
theorem BX.Ok.kpar(h:X.Ok){c v:Nat}(hc:c<X.N)(hp:X.par c=v): v∈X.K c/\v<X.N/\X.pl c<X.pl v/\∀ u∈X.K c,u=v∨u∈X.K v:=by
 rcases h.k2 c hc with ⟨_,o⟩|⟨p,o,h3,_⟩
 .rw [o]at hp;omega
 .have:p=v:=om
  subst this;exact ⟨h3,(h.k1 c hc p h3).1,(h.k1 c hc p h3).2,h.k3 c hc p hp⟩
theorem BX.Ok.kroot(h:X.Ok){c:Nat}(hc:c<X.N)(hp:X.par c = -1): X.K c=[]:=by
 rcases h.k2 c hc with ⟨o,_⟩|⟨p,o,_,_⟩
 .exact o
 .omega
theorem BX.bag_congr{v:Nat}{z z':List α}(e:∀ u,u=v∨u∈X.K v->z.getD u X.d0=z'.getD u X.d0)(hb:X.bag v z): X.bag v z':=λa J=>by
 obtain ⟨r,C,O⟩:=hb a J;exact ⟨r,C,λj G o=>by rw [O j G o,e _ o]⟩
theorem BX.Ok.W_congr(h:X.Ok){v:Nat}{z z':List α}(e:∀ u,u=v∨u∈X.K v->z.getD u X.d0=z'.getD u X.d0): X.W v z=X.W v z':=by
 refine Ur λc C=>?_;split
 .rename_i hp;rw [Jwm λu o=>e u ((h.kpar C hp).2.2.2 u o)]
 .rfl
theorem BX.Ok.join_W(h:X.Ok){z:List α}(hz:X.Join z): (∀ v,X.bag v z)/\∀ v,v<X.N->0<X.W v z/\0<X.T v (prj X.d0 (X.K v) z):=by
 have u:∀ v,X.bag v z:=λv a U=>⟨_,hz.2 a U,λj O _=>Iv X.d0 O⟩;refine ⟨u,?_⟩;have key:∀ n v,v<X.N->X.pl v<n->0<X.W v z/\0<X.T v (prj X.d0 (X.K v) z):=by
  intro n;induction n with
  | zero=>intro v _ Z;omega
  | succ n ih=>
   intro v o Z;have C:0<X.W v z:=by
    refine prodR_pos.2 λc G=>?_;split
    .rename_i hp;have:=(h.kpar G hp).2.2.1;exact (ih c G om).2
    .exact Nat.one_pos
   refine ⟨C,?_⟩;by_cases hF:v<X.F
   .rw [(h.t2 v hF _).1];have J:=((h.t2 v hF (prj X.d0 (X.K v) z)).2 (z.getD v X.d0,X.W v z)).2 ⟨z,hz.1,u v,rfl,rfl,rfl,C⟩;obtain ⟨l1,l2,e⟩:=List.append_of_mem J;rw [e,Jxq,tot];simp only;omega
   .exact (h.t1 v om o _).2.2 ⟨z,hz.1,u v,rfl,C⟩
 exact λv o=>key _ v o (h.plN v o)
theorem getD_set'(d0:α)(l:List α)(i k:Nat)(x:α)(hi:i<l.length): (l.set i x).getD k d0=if k=i then x else l.getD k d0:=by
 by_cases e:k=i
 .subst e;simp [List.getD,hi]
 .rw [if_neg e];simp [List.getD,List.getElem?_set_ne (λo=>e o.symm)]
theorem BX.Ok.choose(h : X.Ok){y : List α}(hy : y.length = X.F)(hE : ∀ v, v < X.F → y.getD v X.d0 ∈ (X.E v (prj X.d0 (X.K v) y)).map (·.1))(hR : X.Roots):
    ∀ n, n ≤ X.N → ∃ z, z.length = X.N ∧ (∀ u, u < X.F → z.getD u X.d0 = y.getD u X.d0) ∧ ∀ v, v < X.N → (v < X.F ∨ X.N ≤ X.pl v + n) → X.bag v z ∧ 0 < X.W v z := by
  intro n
  induction n with
  | zero =>
    intro _
    refine ⟨y ++ List.replicate (X.N - X.F) X.d0, by have := h.FN; simp [hy]; omega, fun u hu => Jzp om, fun v hv hc => ?_⟩
    have hF : v < X.F := hc.resolve_right (by have := h.plN v hv; omega)
    obtain ⟨p, hp, e⟩ := List.mem_map.1 (hE v hF)
    obtain ⟨z, hz, hb, hk, hv', hw, h0⟩ := ((h.t2 v hF _).2 p).1 hp
    have agree : ∀ u, u = v ∨ u ∈ X.K v → z.getD u X.d0 = (y ++ List.replicate (X.N - X.F) X.d0).getD u X.d0 := by
      intro u hu
      have hlt : u < X.F := by
        rcases hu with rfl | hu
        . exact hF
        . have := h.k1 v hv u hu
          rcases Nat.lt_or_ge u X.F with h' | h'
          . exact h'
          . have := h.k6 v u hF h' this.1; omega
      rw [Jzp om]
      rcases hu with rfl | hu
      . rw [hv', e]
      . obtain ⟨j, hj, ej⟩ := List.getElem_of_mem hu
        have := congrArg (fun l => l.getD j X.d0) hk
        rw [Iv X.d0 hj, Iv X.d0 hj] at this
        rw [← ej]; simpa [List.getD, List.getElem?_eq_getElem hj] using this
    exact ⟨BX.bag_congr agree hb, by rw [← h.W_congr agree, ← hw]; exact h0⟩
  | succ n ih =>
    intro hn
    obtain ⟨z, hz, hzy, hg⟩ := ih om
    by_cases hv : ∃ v, v < X.N ∧ X.F ≤ v ∧ X.pl v + (n + 1) = X.N
    . obtain ⟨v, hvN, hvF, hpl⟩ := hv
      have hT : 0 < X.T v (prj X.d0 (X.K v) z) := by
        rcases h.k2 v hvN with ⟨h1, h2⟩ | ⟨p, h2, h3, _⟩
        . rw [h1]; exact hR.1 v hvN h2
        . have hp := h.kpar hvN h2
          have := (hg p hp.2.1 (.inr om)).2
          have h5 := prodR_pos.1 this v hvN
          rw [if_pos h2] at h5; exact h5
      obtain ⟨z', hz', hb', hk', hw'⟩ := (h.t1 v hvF hvN _).2.1 hT
      have hvz : v < z.length := by omega
      have far : ∀ u, u ≠ v → (z.set v (z'.getD v X.d0)).getD u X.d0 = z.getD u X.d0 := fun u hu => by rw [getD_set' _ _ _ _ _ hvz, if_neg hu]
      refine ⟨z.set v (z'.getD v X.d0), by simp [hz], fun u hu => by rw [far u om]; exact hzy u hu, fun u hu hc => ?_⟩
      by_cases e : u = v
      . subst e
        have agree : ∀ x, x = u ∨ x ∈ X.K u → z'.getD x X.d0 = (z.set u (z'.getD u X.d0)).getD x X.d0 := by
          intro x hx
          by_cases ex : x = u
          . rw [ex, getD_set' _ _ _ _ _ hvz, if_pos rfl]
          . rw [far x ex]
            have hxK := hx.resolve_left ex
            obtain ⟨j, hj, ej⟩ := List.getElem_of_mem hxK
            have := congrArg (fun l => l.getD j X.d0) hk'
            rw [Iv X.d0 hj, Iv X.d0 hj] at this
            rw [← ej]; simpa [List.getD, List.getElem?_eq_getElem hj] using this
        exact ⟨BX.bag_congr agree hb', by rw [← h.W_congr agree]; exact hw'⟩
      . have hlate : X.pl v < X.pl u := by
          rcases hc with hc | hc
          . exact h.k6 u v hc hvF hvN
          . have : X.pl u ≠ X.pl v := fun e' => e (h.inj u v hu hvN e')
            omega
        have agree : ∀ x, x = u ∨ x ∈ X.K u → z.getD x X.d0 = (z.set v (z'.getD v X.d0)).getD x X.d0 := by
          intro x hx
          refine (far x ?_).symm
          rintro rfl
          rcases hx with rfl | hx
          . exact e rfl
          . have := (h.k1 u hu x hx).2; omega
        have hgu := hg u hu (by rcases hc with hc | hc; · exact .inl hc
                                exact .inr om)
        exact ⟨BX.bag_congr agree hgu.1, by rw [← h.W_congr agree]; exact hgu.2⟩
    . refine ⟨z, hz, hzy, fun u hu hc => hg u hu ?_⟩
      rcases hc with hc | hc
      . exact .inl hc
      . by_cases hF : u < X.F
        . exact .inl hF
        . refine .inr ?_
          by_cases e : X.pl u + (n + 1) = X.N
          . exact absurd ⟨u, hu, by omega, e⟩ hv
          . omega
theorem Jpz(pl:Nat->Nat): ∀ {l:List Nat},l≠[]->∃ v∈l,∀ u∈l,pl v<=pl u
 | [v],_=>⟨v,List.mem_cons_self ..,λu hu=>by rw [List.mem_singleton.1 hu];exact Nat.le_refl _⟩
 | v::x::l,_=>by
  obtain ⟨w,hw,h1⟩:=Jpz pl (l:=x::l) (by simp);by_cases h:pl v<=pl w
  .refine ⟨v,List.mem_cons_self ..,λu hu=>?_⟩;rcases List.mem_cons.1 hu with rfl|hu
   .exact Nat.le_refl _
   .exact nL h (h1 u hu)
  .refine ⟨w,List.mem_cons_of_mem _ hw,λu hu=>?_⟩;rcases List.mem_cons.1 hu with rfl|hu
   .omega
   .exact h1 u hu
theorem BX.Ok.answers(h:X.Ok){y:List α}(hy:y.length=X.F):
  ((∀ v,v<X.F->y.getD v X.d0∈(X.E v (prj X.d0 (X.K v) y)).map (·.1))/\X.Roots)↔∃ z,X.Join z/\z.take X.F=y:=by
 constructor
 .rintro ⟨hE,hR⟩;obtain ⟨z,G,Z,hg⟩:=h.choose hy hE hR X.N (Nat.le_refl _);have O:∀ v,v<X.N->X.bag v z:=λv o=>(hg v o (.inr om)).1;refine ⟨z,⟨G,λa C=>?_⟩,?_⟩
  .by_cases e:a.1=[]
   .obtain ⟨r,J⟩:=List.exists_mem_of_ne_nil _ (hR.2 a C);have:=(h.al a C).2 r J;rw [e]at this;rw [e,show prj X.d0 [] z=r from (List.eq_nil_of_length_eq_zero this).symm ▸ rfl];exact J
   .obtain ⟨v,o,hm⟩:=Jpz X.pl e;obtain ⟨r,J,h1⟩:=O v ((h.al a C).1 v o) a C;have hl:=(h.al a C).2 r J;have:prj X.d0 a.1 z=r:=by
     apply List.ext_getElem
     .rw [Qbn,hl]
     .intro j h2 U;rw [hl]at U;have:=h1 j U (h.k4 a C v o hm _ (by simp [List.getD,List.getElem?_eq_getElem U]));simp only [List.getD,List.getElem?_eq_getElem U,Option.getD_some]at this;rw [List.getElem?_eq_getElem om,Option.getD_some]at this;simp only [prj,List.getElem_map];rw [this];rfl
    rw [this];exact J
  .apply List.ext_getElem?
   intro j;rw [List.getElem?_take];by_cases hj:j<X.F
   .rw [if_pos hj];have:=Z j hj;have a1:=h.FN;rw [List.getElem?_eq_getElem om,List.getElem?_eq_getElem om];simp only [List.getD]at this;rw [List.getElem?_eq_getElem om,List.getElem?_eq_getElem om]at this;simpa using this
   .rw [if_neg hj,List.getElem?_eq_none om]
 .rintro ⟨z,G,e⟩;obtain ⟨hb,hW⟩:=h.join_W G;refine ⟨λv o=>?_,λv o hp=>?_,λa C he=>?_⟩
  .have a1:=h.FN;have far:∀ u,u<X.F->y.getD u X.d0=z.getD u X.d0:=λu hu=>by rw [<-e];simp [List.getD,hu]
   have ek:prj X.d0 (X.K v) y=prj X.d0 (X.K v) z:=Jwm λu hu=>far u (by
    have:=h.k1 v om u hu;rcases Nat.lt_or_ge u X.F with h'|h'
    .exact h'
    .have:=h.k6 v u o h' this.1;omega)
   rw [ek,far v o];exact List.mem_map.2 ⟨(z.getD v X.d0,X.W v z),((h.t2 v o _).2 _).2 ⟨z,G.1,hb v,rfl,rfl,rfl,(hW v om).1⟩,rfl⟩
  .have:=(hW v o).2;rw [h.kroot o hp]at this;exact this
  .have:=G.2 a C;rw [he]at this;cases this
def BX.ix(X:BX α): AX α:=⟨X.d0,X.F,X.K,X.par,X.E⟩
theorem Jnx{m n : Nat}(hmn : m ≤ n){g : Nat → Nat}(h : ∀ c, m ≤ c → c < n → g c = 1): Jc n g = Jc m g := by
  induction n with
  | zero => have : m = 0 := by omega
            subst this; rfl
  | succ n ih =>
    by_cases e : m = n + 1
    . rw [e]
    . rw [Jc, h n om om, Nat.mul_one, ih om (fun c h1 h2 => h c h1 om)]
theorem BX.Ok.ixOk(h:X.Ok): X.ix.Ok:=by
 have a5:=h.FN;have kf:∀ v,v<X.F->∀ u∈X.K v,u<v:=λv G u o=>by
  have h1:=h.k1 v om u o;rcases Nat.lt_or_ge u X.F with O|O
  .rcases Nat.lt_trichotomy u v with h3|h3|h3
   .exact h3
   .subst h3;omega
   .have:=h.k5 u v O h3;omega
  .have:=h.k6 v u G O h1.1;omega
 refine ⟨λv G u o=>?_,λv G=>?_,λv G y hy p hp=>?_⟩
 .have J:v<X.F:=G;rcases h.k2 v om with ⟨h1,_⟩|⟨p,O,h3,h4⟩
  .rw [show X.ix.ks v=[] from h1]at o;cases o
  .rw [show X.ix.par v=p from O];have h5:=h4 u o;have h6:=kf v G u o;have h7:=kf v G p h3;rcases Nat.lt_or_ge p u with h8|h8
   .have:=h.k5 u p om h8;omega
   .omega
 .have J:v<X.F:=G;rcases h.k2 v om with ⟨_,O⟩|⟨p,O,h3,_⟩
  .rw [show X.ix.par v = -1 from O];omega
  .rw [show X.ix.par v=p from O];have:=kf v G p h3;omega
 .have J:v<X.F:=G;obtain ⟨z,hz,hb,hk,a2,hw,h0⟩:=((h.t2 v J _).2 p).1 hp;refine ⟨h0,?_⟩;have U:∀ u,u=v∨u∈X.K v->z.getD u X.d0=(y++[p.1]).getD u X.d0:=by
   intro u o;rcases o with rfl|o
   .rw [a2];simp [List.getD,<-hy]
   .rw [Jzp (by rw [hy];exact kf v J u o)];obtain ⟨j,hj,ej⟩:=List.getElem_of_mem o;have:=congrArg (λl=>l.getD j X.d0) hk;rw [Iv X.d0 hj]at this;have e2:(X.ix.key v y).getD j X.d0=y.getD ((X.K v).getD j 0) X.d0:=Iv X.d0 hj;rw [e2]at this;rw [<-ej];simpa [List.getD,List.getElem?_eq_getElem hj] using this
  have Z:0<X.W v z:=by rw [<-hw];exact h0
  rw [hw,BX.W];have e3:∀ c,c<X.N->X.par c=v->X.T c (prj X.d0 (X.K c) z)=X.T c (prj X.d0 (X.K c) (y++[p.1])):=λc hc C=>by
   rw [Jwm λu o=>U u ((h.kpar hc C).2.2.2 u o)]
  rw [Jnx a5 (λc a3 a1=>?_)]
  .refine Ur λc hc=>?_;have a4:c<X.F:=hc;show _=if X.par c=v then tot (X.E c (prj X.d0 (X.K c) (y++[p.1]))) else 1
   split
   .rename_i C;rw [e3 c om C,(h.t2 c a4 _).1]
   .rfl
  .by_cases C:X.par c=v
   .have h5:=prodR_pos.1 Z c a1;rw [if_pos C]at h5 ⊢;have:=(h.t1 c a3 a1 (prj X.d0 (X.K c) z)).1;omega
   .rw [if_neg C]
end
def Um(v:Nat)(nb:Nat->Nat->Bool): Nat->Nat->Bool:=λu x=>if nb v u then (nb u x || nb v x) && (x != u) && (x != v) else nb u x
def Vb(nb:Nat->Nat->Bool): List Nat->Nat->Nat->Bool
 | []=>nb
 | v::l=>Vb (Um v nb) l
theorem Jpv(nb:Nat->Nat->Bool)(l m:List Nat): Vb nb (l++m)=Vb (Vb nb l) m:=by
 induction l generalizing nb with
 | nil=>rfl
 | cons v l ih=>exact ih _
structure NbInv(l:List Nat)(nb:Nat->Nat->Bool): Prop where
 sym:∀ u x,u ∉ l->x ∉ l->nb u x=nb x u
 gone:∀ u x,u ∉ l->nb u x=true->x ∉ l/\x≠u
theorem NbInv.step{l:List Nat}{nb:Nat->Nat->Bool}(h:NbInv l nb){v:Nat}(hv:v ∉ l): NbInv (l++[v]) (Um v nb):=by
 have ns:∀ {u},u ∉ l++[v]->u ∉ l/\u≠v:=λG=>by rw [List.mem_append,List.mem_singleton,not_or]at G;exact G
 constructor
 .intro u x G o;obtain ⟨C,Z⟩:=ns G;obtain ⟨x1,x2⟩:=ns o;have U:=h.sym u x C x1;unfold Um;by_cases e1:nb v u=true<;>by_cases e2:nb v x=true
  .rw [if_pos e1,if_pos e2,e1,e2,U];have O:(x != v)=true:=bne_iff_ne.2 x2;have b2:(u != v)=true:=bne_iff_ne.2 Z;rw [O,b2];by_cases e:x=u
   .subst e;rfl
   .rw [bne_iff_ne.2 e,bne_iff_ne.2 (λe'=>e e'.symm)]
  .rw [if_pos e1,if_neg e2];have O:(x != v)=true:=bne_iff_ne.2 x2;rw [Bool.not_eq_true]at e2;rw [e2,O,Bool.or_false,Bool.and_true,<-U];cases e3:nb u x with
   | false=>rfl
   | true=>rw [bne_iff_ne.2 (h.gone u x C e3).2];rfl
  .rw [if_neg e1,if_pos e2];have O:(u != v)=true:=bne_iff_ne.2 Z;rw [Bool.not_eq_true]at e1;rw [e1,O,Bool.or_false,Bool.and_true,U];cases e3:nb x u with
   | false=>rfl
   | true=>rw [bne_iff_ne.2 (h.gone x u x1 e3).2];rfl
  .rw [if_neg e1,if_neg e2];exact U
 .intro u x G o;obtain ⟨C,Z⟩:=ns G;unfold Um at o;rw [List.mem_append,List.mem_singleton,not_or];by_cases e1:nb v u=true
  .rw [if_pos e1]at o;simp only [Bool.and_eq_true,Bool.or_eq_true,bne_iff_ne]at o;refine ⟨⟨?_,o.2⟩,o.1.2⟩;rcases o.1.1 with J|J
   .exact (h.gone u x C J).1
   .exact (h.gone v x hv J).1
  .rw [if_neg e1]at o;obtain ⟨J,h2⟩:=h.gone u x C o;refine ⟨⟨J,λe=>?_⟩,h2⟩;subst e;exact e1 ((h.sym x u J C).trans o)
theorem NbInv.at{nb:Nat->Nat->Bool}(h:NbInv [] nb): ∀ {l:List Nat},l.Nodup->NbInv l (Vb nb l):=by
 intro l;have key:∀ (l m:List Nat) (o:Nat->Nat->Bool),NbInv m o->(m++l).Nodup->NbInv (m++l) (Vb o l):=by
  intro l;induction l with
  | nil=>intro m o h _;rw [List.append_nil];exact h
  | cons v l ih=>
   intro m o h hn;have u:v ∉ m:=by
    rw [List.nodup_append]at hn;exact λC=>hn.2.2 v C v (mC ..) rfl
   have e:m++v::l=(m++[v])++l:=by simp
   rw [e]at hn ⊢;exact ih (m++[v]) _ (h.step u) hn
 intro hn;exact key l [] nb h hn
theorem Jcp{p x:Nat}(hx:x≠p): ∀ {mid:List Nat} {nb:Nat->Nat->Bool},nb p x=true->x ∉ mid->Vb nb mid p x=true
 | [],_,h,_=>h
 | w::mid,nb,h,hm=>by
  rw [Vb];refine Jcp hx ?_ (λh'=>hm (List.mem_cons_of_mem _ h'));have hw:x≠w:=λe=>hm (by rw [e];exact mC ..);unfold Um;split
  .rw [h,bne_iff_ne.2 hx,bne_iff_ne.2 hw];rfl
  .exact h
def pre(ord:List Nat)(v:Nat): List Nat:=ord.takeWhile (· != v)
def Zp(nb:Nat->Nat->Bool)(ord:List Nat)(v u:Nat): Bool:=Vb nb (pre ord v) v u
theorem Jcg{l r:List Nat}{v:Nat}(h:v ∉ l): pre (l++v::r) v=l:=by
 induction l with
 | nil=>simp [pre]
 | cons x l ih=>
  have o:(x != v)=true:=bne_iff_ne.2 λe=>h (by rw [e];exact mC ..);unfold pre at ih ⊢;rw [List.cons_append,List.takeWhile_cons,if_pos o,ih (λu=>h (List.mem_cons_of_mem _ u))]
theorem Jwb{ord:List Nat}{v:Nat}(h:v∈ord): ∃ r,ord=pre ord v++v::r/\v ∉ pre ord v:=by
 obtain ⟨l,r,e,hn⟩:=List.append_of_mem h |>.elim λl C=>C.elim λr e=>(⟨l,r,e,trivial⟩:∃ l r,ord=l++v::r/\True);clear hn;have:∀ l:List Nat,∃ o,l++v::r=pre (l++v::r) v++v::o/\v ∉ pre (l++v::r) v:=by
  intro l;induction l with
  | nil=>exact ⟨r,by simp [pre],by simp [pre]⟩
  | cons x l ih=>
   by_cases e:x=v
   .subst e;exact ⟨l++x::r,by simp [pre],by simp [pre]⟩
   .obtain ⟨o,J,G⟩:=ih;have u:pre (x::l++v::r) v=x::pre (l++v::r) v:=by
     unfold pre;rw [List.cons_append,List.takeWhile_cons,if_pos (by simpa using e)]
    refine ⟨o,by rw [u,List.cons_append,List.cons_append,<-J],?_⟩;rw [u,List.mem_cons,not_or];exact ⟨λO=>e O.symm,G⟩
 rw [e];exact this l
def Jkl(ord:List Nat)(v u:Nat): Prop:=u ∉ pre ord v
section
variable {nb:Nat->Nat->Bool} {ord:List Nat} (h0:NbInv [] nb) (hn:ord.Nodup)
theorem Jnz(hn:ord.Nodup)(v:Nat): (pre ord v).Nodup:=hn.sublist (List.takeWhile_sublist _)
include h0 hn
theorem Jdj{v u:Nat}(hv:v∈ord)(hk:Zp nb ord v u=true): Jkl ord v u/\u≠v:=by
 obtain ⟨r,e,o⟩:=Jwb hv;exact (h0.at (Jnz hn v)).gone v u o hk
omit h0 hn in
theorem Jvc{N:Nat}(hN:∀ u x,nb u x=true->x<N){v u:Nat}(hk:Zp nb ord v u=true): u<N:=by
 have:∀ (l:List Nat) (nb:Nat->Nat->Bool),(∀ u x,nb u x=true->x<N)->∀ u x,Vb nb l u x=true->x<N:=by
  intro l;induction l with
  | nil=>intro nb h;exact h
  | cons w l ih=>
   intro nb h;refine ih _ λu x o=>?_;unfold Um at o;split at o
   .simp only [Bool.and_eq_true,Bool.or_eq_true]at o;rcases o.1.1 with h1|h1<;>exact h _ _ h1
   .exact h _ _ o
 exact this _ _ hN _ _ hk
theorem Qfr{v p x:Nat}(hv:v∈ord)(hp:p∈ord)(hkp:Zp nb ord v p=true)(hmin:∀ u,Zp nb ord v u=true->Jkl ord p u)(hkx:Zp nb ord v x=true)(hx:x≠p): Zp nb ord p x=true:=by
 obtain ⟨r,e,h1⟩:=Jwb hv;obtain ⟨r2,e2,h2⟩:=Jwb hp;have o:=Jdj h0 hn hv hkp;have O:=Jdj h0 hn hv hkx;have Z:v∈pre ord p:=by
  have h3:p∈pre ord v∨v∈pre ord p:=by
   have a1:p∈pre ord v++v::r:=e ▸ hp;rcases List.mem_append.1 a1 with h4|h4
   .exact .inl h4
   .have h5:p∈r:=(List.mem_cons.1 h4).resolve_left o.2;obtain ⟨a,b,eb⟩:=List.append_of_mem h5;have e3:ord=(pre ord v++v::a)++p::b:=by
     have e':=e;rw [eb]at e';rw [List.append_assoc];exact e'
    have h6:p ∉ pre ord v++v::a:=by
     intro h7;rw [e3,List.nodup_append]at hn;exact hn.2.2 p h7 p (mC ..) rfl
    have:=Jcg (r:=b) h6;rw [<-e3]at this;rw [this];exact .inr (List.mem_append_right _ (mC ..))
  exact h3.resolve_left o.1
 obtain ⟨m,m2,J⟩:=List.append_of_mem Z;have hm:m=pre ord v:=by
  have U:v ∉ m:=by
   have:=Jnz hn p;rw [J,List.nodup_append]at this;exact λh'=>this.2.2 v h' v (mC ..) rfl
  have:=Jcg (l:=m) (r:=m2++p::r2) U;rw [<-this];congr 1
  rw [e2,J];simp
 unfold Zp;rw [J,Jpv,Vb,hm];refine Jcp hx ?_ λh'=>?_
 .have G:Vb nb (pre ord v) v p=true:=hkp;have C:Vb nb (pre ord v) v x=true:=hkx;unfold Um;rw [if_pos G,C,bne_iff_ne.2 hx,bne_iff_ne.2 O.2];simp
 .exact hmin x hkx (by rw [J];exact List.mem_append_right _ (List.mem_cons_of_mem _ h'))
omit h0 hn in
theorem Qfs{v u:Nat}(hb:nb v u=true)(hne:u≠v)(hl:Jkl ord v u): Zp nb ord v u=true:=Jcp hne hb hl
end
end Pl
namespace Pl
theorem Qjj{ds:List Bool}: ∀ {m:Nat} {x z:Row},x.take m=z.take m->m<x.length->m<z.length->cmpV (x.getD m V0) (z.getD m V0)≠0->Jw x z ds=neg (ds.getD m false) (cmpV (x.getD m V0) (z.getD m V0))
 | 0,a::x,b::z,_,_,_,h=>by
  simp only [List.getD_cons_zero]at h ⊢;simp only [Jw];rw [if_neg h]
 | m+1,a::x,b::z,h,h1,h2,h3=>by
  simp only [List.take_succ_cons,List.cons.injEq]at h;simp only [List.getD_cons_succ]at h3 ⊢;simp only [Jw];rw [if_pos (by rw [h.1];exact Zv b),Qjj h.2 (by simpa using h1) (by simpa using h2) h3];simp [List.getD]
 | _,[],_,_,h,_,_=>by simp at h
 | _,_::_,[],_,_,h,_=>by simp at h
theorem neg_lt{d:Bool}{a b:V}(h:neg d (cmpV a b)<0): cmpV a b≠0:=by
 intro e;rw [e]at h;unfold neg at h;split at h<;>omega
theorem Jww(d:Bool)(a b:V): neg d (cmpV b a) = - neg d (cmpV a b):=(Jkb d).anti a b
theorem Qmh{ds:List Bool}{m:Nat}{x z:Row}(h:x.take m=z.take m)(h1:m<x.length)(h2:m<z.length)(h3:neg (ds.getD m false) (cmpV (x.getD m V0) (z.getD m V0))<0): Jw x z ds<0:=by
 rw [Qjj h h1 h2 (neg_lt h3)];exact h3
def Iu(d:Bool)(l:List (V×Nat)): Prop:=l.Pairwise λp q=>neg d (cmpV p.1 q.1)<0
abbrev IX:= AX V
structure AX.Srt(X:IX)(ds:List Bool): Prop where
 d0:X.d0=V0
 srt:∀ v,v<X.F->∀ k,Iu (ds.getD v false) (X.E v k)
theorem AX.ext_at_col{X:IX}{n:Nat}{y x:Row}{a:V}(hx:x∈X.ext n (y++[a])): x.length=y.length+1+n/\x.take y.length=y/\x.getD y.length V0=a:=by
 obtain ⟨u,o,_⟩:=(AX.ext_mem n _ x).1 hx;rw [List.length_append,List.length_singleton]at u o;refine ⟨u,?_,?_⟩
 .have:=congrArg (List.take y.length) o;rw [List.take_take,Nat.min_eq_left om,List.take_append_of_le_length (Nat.le_refl _),List.take_length]at this;exact this
 .have:=congrArg (λl=>l.getD y.length V0) o;simpa [List.getD] using this
theorem AX.Srt.ext{X:IX}{ds:List Bool}(h:X.Srt ds): ∀ (n:Nat) (y:Row),y.length+n=X.F->Lt ds (X.ext n y)
 | 0,y,_=>List.pairwise_singleton _ _
 | n+1,y,e=>by
  rw [AX.ext];refine List.pairwise_flatMap.2 ⟨λp _=>h.ext n _ (by simp;omega),(h.srt y.length om _).imp fun {p q} hpq x hx z hz=>?_⟩;obtain ⟨h1,h2,h3⟩:=AX.ext_at_col hx;obtain ⟨h4,h5,h6⟩:=AX.ext_at_col hz;exact Qmh (m:=y.length) (by rw [h2,h5]) om om (by rw [h3,h6];exact hpq)
def bef(d:Bool)(v:V): List (V×Nat)->Nat
 | []=>0
 | p::l=>(if neg d (cmpV p.1 v)<0 then p.2 else 0)+bef d v l
end Pl
end Go.Proofs.YtebcagekopgdhaaGreatDoor
