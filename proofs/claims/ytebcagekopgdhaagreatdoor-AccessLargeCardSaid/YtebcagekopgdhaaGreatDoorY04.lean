/- Part 4. -/
import Derived.Test.YtebcagekopgdhaaGreatDoorY03
import Derived.Laws.BitsAllLaws
set_option linter.unusedVariables false
set_option maxRecDepth 100000
set_option maxHeartbeats 40000000
namespace Go.Proofs.YtebcagekopgdhaaGreatDoor
namespace Pl
variable {cs l ord r:List Nat}{N O c j k m n p u v x:Nat}{g h:Nat->Nat}
def Jf: Nat->(Nat->Nat)->Nat
 | 0,_=>1
 | n+1,g=>Jf n g*g n
theorem Gk(e:∀ c,c<n->g c=h c): Jf n g=Jf n h:=by
 induction n with
 | zero=>rfl
 | succ n ih=>rw [Jf,Jf,ih (λc o=>e c om),e n om]
theorem Qdz(n:Nat)(g h:Nat->Nat): Jf n (λc=>g c*h c)=Jf n g*Jf n h:=by
 induction n with
 | zero=>rfl
 | succ n ih=>rw [Jf,Jf,Jf,ih,Nat.mul_assoc,Nat.mul_assoc,Nat.mul_left_comm (Jf n h)]
theorem Jrg(e:∀ c,c<n->g c=1): Jf n g=1:=by
 induction n with
 | zero=>rfl
 | succ n ih=>rw [Jf,ih (λc o=>e c om),e n om]
theorem prodR_pos: 0<Jf n g↔∀ c,c<n->0<g c:=by
 induction n with
 | zero=>exact ⟨λ_ c o=>om,λ_=>Nat.one_pos⟩
 | succ n ih=>
  rw [Jf];constructor
  .intro h c o;have C:=Nat.pos_of_mul_pos_right h;have u:=Nat.pos_of_mul_pos_left h;by_cases e:c=n
   .rw [e];first|exact C|exact u
   .first|exact ih.1 C c (by omega)|exact ih.1 u c om
  .intro h;exact Nat.mul_pos (ih.2 λc o=>h c om) (h n om)
theorem Jdh(hk:k<n): Jf n g=g k*Jf n (λc=>if c=k then 1 else g c):=by
 induction n with
 | zero=>omega
 | succ n ih=>
  rw [Jf,Jf];by_cases e:k=n
  .subst e;rw [if_pos rfl,Nat.mul_one,Nat.mul_comm];congr 1
   exact Gk λc u=>by rw [if_neg om]
  .rw [if_neg (λo=>e o.symm),ih om,Nat.mul_assoc]
section
variable {α:Type}
def tot: List (α×Nat)->Nat
 | []=>0
 | p::l=>p.2+tot l
theorem Jzj(l m:List (α×Nat)): tot (l++m)=tot l+tot m:=by
 induction l with
 | nil=>simp [tot]
 | cons p l ih=>rw [List.cons_append,tot,tot,ih,Nat.add_assoc]
theorem Qyh{l:List (α×Nat)}(h:∀ p∈l,0<p.2): 0<tot l↔l≠[]:=by
 cases l with
 | nil=>simp [tot]
 | cons p l=>have:=h p (mC ..);simp [tot];omega
def prj(d0:α)(cs:List Nat)(y:List α): List α:=cs.map λc=>y.getD c d0
theorem Qfb(d0:α)(cs:List Nat)(y:List α): (prj d0 cs y).length=cs.length:=by simp [prj]
theorem Jvq{d0:α}{y z:List α}(h:∀ c∈cs,y.getD c d0=z.getD c d0): prj d0 cs y=prj d0 cs z:=List.map_congr_left h
theorem Jkm{d0:α}{y z:List α}(h:c<y.length): (y++z).getD c d0=y.getD c d0:=by simp [List.getD,List.getElem?_append_left h]
structure AX(α:Type) where
 d0: α
 F:Nat
 ks:Nat->List Nat
 par:Nat->Int
 E:Nat->List α->List (α×Nat)
def AX.key(X:AX α)(c:Nat)(y:List α): List α:=prj X.d0 (X.ks c) y
def AX.T(X:AX α)(c:Nat)(y:List α): Nat:=tot (X.E c (X.key c y))
structure AX.Ok(X:AX α): Prop where
 kl:∀ v,v<X.F->∀ u∈X.ks v,(u:Int)<=X.par v
 pl:∀ v,v<X.F->-1<=X.par v/\X.par v<v
 wt:∀ v,v<X.F->∀ y,y.length=v->∀ p∈X.E v (X.key v y),0<p.2/\p.2=Jf X.F (λc=>if X.par c=v then X.T c (y++[p.1]) else 1)
def AX.pend(X:AX α)(m:Nat)(y:List α): Nat:=Jf X.F (λc=>if m<=c/\X.par c<m then X.T c y else 1)
def AX.others(X:AX α)(m:Nat)(y:List α): Nat:=Jf X.F (λc=>if m<c/\X.par c<m then X.T c y else 1)
def AX.ext(X:AX α): Nat->List α->List (List α)
 | 0,y=>[y]
 | n+1,y=>(X.E y.length (X.key y.length y)).flatMap λp=>X.ext n (y++[p.1])
variable {X:AX α}
theorem AX.Ok.key_pre(h:X.Ok){y z:List α}(hc:c<X.F)(hp:X.par c<y.length): X.key c (y++z)=X.key c y :=
 Jvq λu o=>Jkm (by have:=h.kl c hc u o;omega)
theorem AX.Ok.T_pre(h:X.Ok){y z:List α}(hc:c<X.F)(hp:X.par c<y.length): X.T c (y++z)=X.T c y:=by rw [AX.T,AX.T,h.key_pre hc hp]
theorem AX.Ok.pend_split(h:X.Ok){y:List α}(hm:y.length<X.F): X.pend y.length y=X.T y.length y*X.others y.length y:=by
 unfold AX.pend AX.others;rw [Jdh hm,if_pos ⟨Nat.le_refl _,(h.pl _ hm).2⟩];congr 1
 refine Gk λc u=>?_;by_cases e:c=y.length
 .rw [if_pos e,if_neg om]
 .rw [if_neg e];by_cases e2:y.length<c/\X.par c<y.length
  .rw [if_pos e2,if_pos ⟨om,e2.2⟩]
  .rw [if_neg e2,if_neg (λo=>e2 ⟨om,o.2⟩)]
theorem AX.Ok.pend_next(h:X.Ok){y:List α}(hm:y.length<X.F){p:α×Nat}(hp:p∈X.E y.length (X.key y.length y)): X.pend (y.length+1) (y++[p.1])=p.2*X.others y.length y:=by
 rw [(h.wt _ hm y rfl p hp).2];unfold AX.pend AX.others;rw [<-Qdz];refine Gk λc o=>?_;have u:=h.pl c o;by_cases e:X.par c=y.length
 .rw [if_pos e,if_neg (show ¬ (y.length<c/\X.par c<y.length) by omega),if_pos om,Nat.mul_one]
 .rw [if_neg e,Nat.one_mul];by_cases e2:y.length<c/\X.par c<y.length
  .rw [if_pos e2,if_pos om,h.T_pre o e2.2]
  .rw [if_neg e2,if_neg om]
theorem Jgb{β:Type}{f:α×Nat->List β}{O:Nat}: ∀ {l:List (α×Nat)},(∀ p∈l,(f p).length=p.2*O)->(l.flatMap f).length=tot l*O
 | [],_=>by simp [tot]
 | p::l,h=>by
  rw [List.flatMap_cons,List.length_append,h p (mC ..),Jgb λq hq=>h q (List.mem_cons_of_mem _ hq),tot,Nat.add_mul]
theorem Qnc{β:Type}{f:α×Nat->List β}{l1 l2:List (α×Nat)}{p:α×Nat}(h:∀ q∈l1++p::l2,(f q).length=q.2*O)(h1:tot l1*O<=k)(h2:k<(tot l1+p.2)*O): ((l1++p::l2).flatMap f)[k]?=(f p)[k-tot l1*O]?:=by
 have C:(l1.flatMap f).length=tot l1*O:=Jgb λq o=>h q (List.mem_append_left _ o);have u:=h p (List.mem_append_right _ (mC ..));rw [List.flatMap_append,List.flatMap_cons,List.getElem?_append_right om,C,List.getElem?_append_left];rw [u];rw [Nat.add_mul]at h2;omega
theorem AX.Ok.ext_len(h:X.Ok): ∀ (n:Nat) (y:List α),y.length+n=X.F->(X.ext n y).length=X.pend y.length y
 | 0,y,e=>by
  rw [AX.ext,AX.pend,Jrg];rfl;intro c hc;rw [if_neg om]
 | n+1,y,e=>by
  have hm:y.length<X.F:=om
  rw [AX.ext,h.pend_split hm,AX.T];refine Jgb λp hp=>?_;have:=h.ext_len n (y++[p.1]) (by simp;omega);rw [this,List.length_append,List.length_singleton,h.pend_next hm hp]
theorem AX.Ok.ext_at(h:X.Ok){y:List α}(e:y.length+(n+1)=X.F){l1 l2:List (α×Nat)}{p:α×Nat}(hE:X.E y.length (X.key y.length y)=l1++p::l2)(ho:0<X.others y.length y)(h1:tot l1<=k / X.others y.length y)(h2:k / X.others y.length y<tot l1+p.2):
  (X.ext (n+1) y)[k]?=(X.ext n (y++[p.1]))[(k / X.others y.length y-tot l1)*X.others y.length y+k % X.others y.length y]?/\(k / X.others y.length y-tot l1)*X.others y.length y+k % X.others y.length y<X.pend (y.length+1) (y++[p.1]):=by
 have o:y.length<X.F:=om
 have J:p∈X.E y.length (X.key y.length y):=by rw [hE];exact List.mem_append_right _ (mC ..)
 have u:∀ q∈X.E y.length (X.key y.length y),(X.ext n (y++[q.1])).length=q.2*X.others y.length y:=λq G=>by
  rw [h.ext_len n (y++[q.1]) (by simp;omega),List.length_append,List.length_singleton,h.pend_next o G]
 rw [h.pend_next o J,AX.ext];generalize X.others y.length y=O at *
 have hk:=Nat.div_add_mod k O;have hr:=Nat.mod_lt k ho;rw [hE]at u ⊢;have Z:tot l1*O<=k:=by
  have:=nO O h1;rw [Nat.mul_comm (k / O)]at this;omega
 have C:k<(tot l1+p.2)*O:=by
  have:=nO O h2;rw [Nat.succ_mul,Nat.mul_comm (k / O)]at this;omega
 have U:(k / O-tot l1)*O+k % O=k-tot l1*O:=by rw [Nat.sub_mul,Nat.mul_comm (k / O)];have:=nO O h1;rw [Nat.mul_comm (k / O)]at this;omega
 rw [Qnc u Z C,U];refine ⟨rfl,?_⟩;rw [Nat.add_mul]at C;omega
theorem AX.ext_mem: ∀ (n:Nat) (y x:List α),x∈X.ext n y↔x.length=y.length+n/\x.take y.length=y/\∀ v,y.length<=v->v<y.length+n->x.getD v X.d0∈(X.E v (X.key v (x.take v))).map (·.1)
 | 0,y,x=>by
  rw [AX.ext,List.mem_singleton];constructor
  .rintro rfl;exact ⟨rfl,List.take_length,λv h1 h2=>om⟩
  .rintro ⟨h1,h2,_⟩;rw [<-h2,List.take_of_length_le om]
 | n+1,y,x=>by
  rw [AX.ext,List.mem_flatMap];constructor
  .rintro ⟨p,hp,hx⟩;obtain ⟨h1,h2,h3⟩:=(AX.ext_mem n _ x).1 hx;rw [List.length_append,List.length_singleton]at h1 h2 h3;have hy:x.take y.length=y:=by
    have:=congrArg (List.take y.length) h2;rw [List.take_take,Nat.min_eq_left om,List.take_append_of_le_length (Nat.le_refl _),List.take_length]at this;exact this
   refine ⟨om,hy,λv h4 h5=>?_⟩;by_cases e:v=y.length
   .subst e;rw [hy];have:x.getD y.length X.d0=p.1:=by
     have:=congrArg (λl=>l.getD y.length X.d0) h2;simpa [List.getD] using this
    rw [this];exact List.mem_map_of_mem hp
   .exact h3 v om om
  .rintro ⟨h1,h2,h3⟩;obtain ⟨p,hp,e⟩:=List.mem_map.1 (h3 y.length (Nat.le_refl _) om);rw [h2]at hp;refine ⟨p,hp,(AX.ext_mem n _ x).2 ⟨?_,?_,λv h4 h5=>h3 v ?_ ?_⟩⟩
   .simp;omega
   .rw [List.length_append,List.length_singleton,e];have hl:y.length<x.length:=om
    rw [List.take_add_one,h2];congr 1
    simp [List.getD,List.getElem?_eq_getElem hl]
   .simp at h4;omega
   .simp at h5;omega
end
structure BX(α:Type) where
 d0: α
 N:Nat
 F:Nat
 K:Nat->List Nat
 par:Nat->Int
 pl:Nat->Nat
 ats:List (List Nat×List (List α))
 T:Nat->List α->Nat
 E:Nat->List α->List (α×Nat)
section
variable {α:Type}
def BX.bag(X:BX α)(v:Nat)(z:List α): Prop:=∀ a∈X.ats,∃ r∈a.2,∀ j,j<a.1.length->(a.1.getD j 0=v∨a.1.getD j 0∈X.K v)->r.getD j X.d0=z.getD (a.1.getD j 0) X.d0
def BX.W(X:BX α)(v:Nat)(z:List α): Nat:=Jf X.N (λc=>if X.par c=v then X.T c (prj X.d0 (X.K c) z) else 1)
structure BX.Ok(X:BX α): Prop where
 FN:X.F<=X.N
 plN:∀ v,v<X.N->X.pl v<X.N
 inj:∀ u v,u<X.N->v<X.N->X.pl u=X.pl v->u=v
 k1:∀ v,v<X.N->∀ u∈X.K v,u<X.N/\X.pl v<X.pl u
 k2:∀ v,v<X.N->(X.K v=[]/\X.par v = -1)∨∃ p:Nat,X.par v=p/\p∈X.K v/\∀ u∈X.K v,X.pl p<=X.pl u
 k3:∀ v,v<X.N->∀ p:Nat,X.par v=p->∀ x∈X.K v,x=p∨x∈X.K p
 k4:∀ a∈X.ats,∀ v∈a.1,(∀ u∈a.1,X.pl v<=X.pl u)->∀ u∈a.1,u=v∨u∈X.K v
 k5:∀ u v,u<X.F->v<u->X.pl u<X.pl v
 k6:∀ u v,u<X.F->X.F<=v->v<X.N->X.pl v<X.pl u
 al:∀ a∈X.ats,(∀ u∈a.1,u<X.N)/\∀ r∈a.2,r.length=a.1.length
 t1:∀ v,X.F<=v->v<X.N->∀ k,X.T v k<=1/\(0<X.T v k↔∃ z,z.length=X.N/\X.bag v z/\prj X.d0 (X.K v) z=k/\0<X.W v z)
 t2:∀ v,v<X.F->∀ k,X.T v k=tot (X.E v k)/\∀ p,p∈X.E v k↔∃ z,z.length=X.N/\X.bag v z/\prj X.d0 (X.K v) z=k/\z.getD v X.d0=p.1/\p.2=X.W v z/\0<p.2
def BX.Join(X:BX α)(z:List α): Prop:=z.length=X.N/\∀ a∈X.ats,prj X.d0 a.1 z∈a.2
def BX.Roots(X:BX α): Prop:=(∀ v,v<X.N->X.par v = -1->0<X.T v [])/\∀ a∈X.ats,a.2≠[]
variable {X:BX α}
theorem Ie(d0:α){y:List α}(h:j<cs.length): (prj d0 cs y).getD j d0=y.getD (cs.getD j 0) d0:=by
 simp [prj,List.getD,List.getElem?_eq_getElem h]
theorem BX.Ok.kpar(h:X.Ok)(hc:c<X.N)(hp:X.par c=v): v∈X.K c/\v<X.N/\X.pl c<X.pl v/\∀ u∈X.K c,u=v∨u∈X.K v:=by
 rcases h.k2 c hc with ⟨_,o⟩|⟨p,o,h3,_⟩
 .rw [o]at hp;omega
 .have:p=v:=om
  subst this;exact ⟨h3,(h.k1 c hc p h3).1,(h.k1 c hc p h3).2,h.k3 c hc p hp⟩
theorem BX.Ok.kroot(h:X.Ok)(hc:c<X.N)(hp:X.par c = -1): X.K c=[]:=by
 rcases h.k2 c hc with ⟨o,_⟩|⟨p,o,_,_⟩
 .exact o
 .omega
theorem BX.bag_congr{z z':List α}(e:∀ u,u=v∨u∈X.K v->z.getD u X.d0=z'.getD u X.d0)(hb:X.bag v z): X.bag v z':=λa J=>by
 obtain ⟨r,C,O⟩:=hb a J;exact ⟨r,C,λj G o=>by rw [O j G o,e _ o]⟩
theorem BX.Ok.W_congr(h:X.Ok){z z':List α}(e:∀ u,u=v∨u∈X.K v->z.getD u X.d0=z'.getD u X.d0): X.W v z=X.W v z':=by
 refine Gk λc C=>?_;split
 .rename_i hp;rw [Jvq λu o=>e u ((h.kpar C hp).2.2.2 u o)]
 .rfl
theorem BX.Ok.join_W(h:X.Ok){z:List α}(hz:X.Join z): (∀ v,X.bag v z)/\∀ v,v<X.N->0<X.W v z/\0<X.T v (prj X.d0 (X.K v) z):=by
 have u:∀ v,X.bag v z:=λv a U=>⟨_,hz.2 a U,λj O _=>Ie X.d0 O⟩;refine ⟨u,?_⟩;have key:∀ n v,v<X.N->X.pl v<n->0<X.W v z/\0<X.T v (prj X.d0 (X.K v) z):=by
  intro n;induction n with
  | zero=>intro v _ Z;omega
  | succ n ih=>
   intro v o Z;have C:0<X.W v z:=by
    refine prodR_pos.2 λc G=>?_;split
    .rename_i hp;have:=(h.kpar G hp).2.2.1;exact (ih c G om).2
    .exact Nat.one_pos
   refine ⟨C,?_⟩;by_cases hF:v<X.F
   .rw [(h.t2 v hF _).1];have J:=((h.t2 v hF (prj X.d0 (X.K v) z)).2 (z.getD v X.d0,X.W v z)).2 ⟨z,hz.1,u v,rfl,rfl,rfl,C⟩;obtain ⟨l1,l2,e⟩:=List.append_of_mem J;rw [e,Jzj,tot];simp only;omega
   .exact (h.t1 v om o _).2.2 ⟨z,hz.1,u v,rfl,C⟩
 exact λv o=>key _ v o (h.plN v o)
theorem getD_set'(d0:α)(l:List α)(i k:Nat)(x:α)(hi:i<l.length): (l.set i x).getD k d0=if k=i then x else l.getD k d0:=by
 by_cases e:k=i
 .subst e;simp [List.getD,hi]
 .rw [if_neg e];simp [List.getD,List.getElem?_set_ne (λo=>e o.symm)]
theorem BX.Ok.choose(h : X.Ok){y : List α}(hy : y.length = X.F)(hE : ∀ v, v < X.F → y.getD v X.d0 ∈ (X.E v (prj X.d0 (X.K v) y)).map (·.1))(hR : X.Roots):
    ∀ n, n ≤ X.N → ∃ z, z.length = X.N ∧ (∀ u, u < X.F → z.getD u X.d0 = y.getD u X.d0) ∧ ∀ v, v < X.N → (v < X.F ∨ X.N ≤ X.pl v + n) → X.bag v z ∧ 0 < X.W v z := by
  intro n
  induction n with
  | zero =>
    intro _
    refine ⟨y ++ List.replicate (X.N - X.F) X.d0, by have := h.FN; simp [hy]; omega, fun u hu => Jkm om, fun v hv hc => ?_⟩
    have hF : v < X.F := hc.resolve_right (by have := h.plN v hv; omega)
    obtain ⟨p, hp, e⟩ := List.mem_map.1 (hE v hF)
    obtain ⟨z, hz, hb, hk, hv', hw, h0⟩ := ((h.t2 v hF _).2 p).1 hp
    have agree : ∀ u, u = v ∨ u ∈ X.K v → z.getD u X.d0 = (y ++ List.replicate (X.N - X.F) X.d0).getD u X.d0 := by
      intro u hu
      have hlt : u < X.F := by
        rcases hu with rfl | hu
        . exact hF
        . have := h.k1 v hv u hu
          rcases Nat.lt_or_ge u X.F with h' | h'
          . exact h'
          . have := h.k6 v u hF h' this.1; omega
      rw [Jkm om]
      rcases hu with rfl | hu
      . rw [hv', e]
      . obtain ⟨j, hj, ej⟩ := List.getElem_of_mem hu
        have := congrArg (fun l => l.getD j X.d0) hk
        rw [Ie X.d0 hj, Ie X.d0 hj] at this
        rw [← ej]; simpa [List.getD, gE hj] using this
    exact ⟨BX.bag_congr agree hb, by rw [← h.W_congr agree, ← hw]; exact h0⟩
  | succ n ih =>
    intro hn
    obtain ⟨z, hz, hzy, hg⟩ := ih om
    by_cases hv : ∃ v, v < X.N ∧ X.F ≤ v ∧ X.pl v + (n + 1) = X.N
    . obtain ⟨v, hvN, hvF, hpl⟩ := hv
      have hT : 0 < X.T v (prj X.d0 (X.K v) z) := by
        rcases h.k2 v hvN with ⟨h1, h2⟩ | ⟨p, h2, h3, _⟩
        . rw [h1]; exact hR.1 v hvN h2
        . have hp := h.kpar hvN h2
          have := (hg p hp.2.1 (.inr om)).2
          have h5 := prodR_pos.1 this v hvN
          rw [if_pos h2] at h5; exact h5
      obtain ⟨z', hz', hb', hk', hw'⟩ := (h.t1 v hvF hvN _).2.1 hT
      have hvz : v < z.length := by omega
      have far : ∀ u, u ≠ v → (z.set v (z'.getD v X.d0)).getD u X.d0 = z.getD u X.d0 := fun u hu => by rw [getD_set' _ _ _ _ _ hvz, if_neg hu]
      refine ⟨z.set v (z'.getD v X.d0), by simp [hz], fun u hu => by rw [far u om]; exact hzy u hu, fun u hu hc => ?_⟩
      by_cases e : u = v
      . subst e
        have agree : ∀ x, x = u ∨ x ∈ X.K u → z'.getD x X.d0 = (z.set u (z'.getD u X.d0)).getD x X.d0 := by
          intro x hx
          by_cases ex : x = u
          . rw [ex, getD_set' _ _ _ _ _ hvz, if_pos rfl]
          . rw [far x ex]
            have hxK := hx.resolve_left ex
            obtain ⟨j, hj, ej⟩ := List.getElem_of_mem hxK
            have := congrArg (fun l => l.getD j X.d0) hk'
            rw [Ie X.d0 hj, Ie X.d0 hj] at this
            rw [← ej]; simpa [List.getD, gE hj] using this
        exact ⟨BX.bag_congr agree hb', by rw [← h.W_congr agree]; exact hw'⟩
      . have hlate : X.pl v < X.pl u := by
          rcases hc with hc | hc
          . exact h.k6 u v hc hvF hvN
          . have : X.pl u ≠ X.pl v := fun e' => e (h.inj u v hu hvN e')
            omega
        have agree : ∀ x, x = u ∨ x ∈ X.K u → z.getD x X.d0 = (z.set v (z'.getD v X.d0)).getD x X.d0 := by
          intro x hx
          refine (far x ?_).symm
          rintro rfl
          rcases hx with rfl | hx
          . exact e rfl
          . have := (h.k1 u hu x hx).2; omega
        have hgu := hg u hu (by rcases hc with hc | hc; · exact .inl hc
                                exact .inr om)
        exact ⟨BX.bag_congr agree hgu.1, by rw [← h.W_congr agree]; exact hgu.2⟩
    . refine ⟨z, hz, hzy, fun u hu hc => hg u hu ?_⟩
      rcases hc with hc | hc
      . exact .inl hc
      . by_cases hF : u < X.F
        . exact .inl hF
        . refine .inr ?_
          by_cases e : X.pl u + (n + 1) = X.N
          . exact absurd ⟨u, hu, by omega, e⟩ hv
          . omega
theorem Jsm(pl:Nat->Nat): ∀ {l:List Nat},l≠[]->∃ v∈l,∀ u∈l,pl v<=pl u
 | [v],_=>⟨v,List.mem_cons_self ..,λu hu=>by rw [List.mem_singleton.1 hu];exact Nat.le_refl _⟩
 | v::x::l,_=>by
  obtain ⟨w,hw,h1⟩:=Jsm pl (l:=x::l) (by simp);by_cases h:pl v<=pl w
  .refine ⟨v,List.mem_cons_self ..,λu hu=>?_⟩;rcases List.mem_cons.1 hu with rfl|hu
   .exact Nat.le_refl _
   .exact nL h (h1 u hu)
  .refine ⟨w,List.mem_cons_of_mem _ hw,λu hu=>?_⟩;rcases List.mem_cons.1 hu with rfl|hu
   .omega
   .exact h1 u hu
theorem BX.Ok.answers(h:X.Ok){y:List α}(hy:y.length=X.F):
  ((∀ v,v<X.F->y.getD v X.d0∈(X.E v (prj X.d0 (X.K v) y)).map (·.1))/\X.Roots)↔∃ z,X.Join z/\z.take X.F=y:=by
 constructor
 .rintro ⟨hE,hR⟩;obtain ⟨z,G,Z,hg⟩:=h.choose hy hE hR X.N (Nat.le_refl _);have O:∀ v,v<X.N->X.bag v z:=λv o=>(hg v o (.inr om)).1;refine ⟨z,⟨G,λa C=>?_⟩,?_⟩
  .by_cases e:a.1=[]
   .obtain ⟨r,J⟩:=List.exists_mem_of_ne_nil _ (hR.2 a C);have:=(h.al a C).2 r J;rw [e]at this;rw [e,show prj X.d0 [] z=r from (List.eq_nil_of_length_eq_zero this).symm ▸ rfl];exact J
   .obtain ⟨v,o,hm⟩:=Jsm X.pl e;obtain ⟨r,J,h1⟩:=O v ((h.al a C).1 v o) a C;have hl:=(h.al a C).2 r J;have:prj X.d0 a.1 z=r:=by
     apply List.ext_getElem
     .rw [Qfb,hl]
     .intro j h2 U;rw [hl]at U;have:=h1 j U (h.k4 a C v o hm _ (by simp [List.getD,List.getElem?_eq_getElem U]));simp only [List.getD,List.getElem?_eq_getElem U,Option.getD_some]at this;rw [List.getElem?_eq_getElem om,Option.getD_some]at this;simp only [prj,List.getElem_map];rw [this];rfl
    rw [this];exact J
  .apply List.ext_getElem?
   intro j;rw [List.getElem?_take];by_cases hj:j<X.F
   .rw [if_pos hj];have:=Z j hj;have a1:=h.FN;rw [List.getElem?_eq_getElem om,List.getElem?_eq_getElem om];simp only [List.getD]at this;rw [List.getElem?_eq_getElem om,List.getElem?_eq_getElem om]at this;simpa using this
   .rw [if_neg hj,List.getElem?_eq_none om]
 .rintro ⟨z,G,e⟩;obtain ⟨hb,hW⟩:=h.join_W G;refine ⟨λv o=>?_,λv o hp=>?_,λa C he=>?_⟩
  .have a1:=h.FN;have far:∀ u,u<X.F->y.getD u X.d0=z.getD u X.d0:=λu hu=>by rw [<-e];simp [List.getD,hu]
   have ek:prj X.d0 (X.K v) y=prj X.d0 (X.K v) z:=Jvq λu hu=>far u (by
    have:=h.k1 v om u hu;rcases Nat.lt_or_ge u X.F with h'|h'
    .exact h'
    .have:=h.k6 v u o h' this.1;omega)
   rw [ek,far v o];exact List.mem_map.2 ⟨(z.getD v X.d0,X.W v z),((h.t2 v o _).2 _).2 ⟨z,G.1,hb v,rfl,rfl,rfl,(hW v om).1⟩,rfl⟩
  .have:=(hW v o).2;rw [h.kroot o hp]at this;exact this
  .have:=G.2 a C;rw [he]at this;cases this
def BX.ix(X:BX α): AX α:=⟨X.d0,X.F,X.K,X.par,X.E⟩
theorem Jrj(hmn : m ≤ n){g : Nat → Nat}(h : ∀ c, m ≤ c → c < n → g c = 1): Jf n g = Jf m g := by
  induction n with
  | zero => have : m = 0 := by omega
            subst this; rfl
  | succ n ih =>
    by_cases e : m = n + 1
    . rw [e]
    . rw [Jf, h n om om, Nat.mul_one, ih om (fun c h1 h2 => h c h1 om)]
theorem BX.Ok.ixOk(h:X.Ok): X.ix.Ok:=by
 have a5:=h.FN;have kf:∀ v,v<X.F->∀ u∈X.K v,u<v:=λv G u o=>by
  have h1:=h.k1 v om u o;rcases Nat.lt_or_ge u X.F with O|O
  .rcases Nat.lt_trichotomy u v with h3|h3|h3
   .exact h3
   .subst h3;omega
   .have:=h.k5 u v O h3;omega
  .have:=h.k6 v u G O h1.1;omega
 refine ⟨λv G u o=>?_,λv G=>?_,λv G y hy p hp=>?_⟩
 .have J:v<X.F:=G;rcases h.k2 v om with ⟨h1,_⟩|⟨p,O,h3,h4⟩
  .rw [show X.ix.ks v=[] from h1]at o;cases o
  .rw [show X.ix.par v=p from O];have h5:=h4 u o;have h6:=kf v G u o;have h7:=kf v G p h3;rcases Nat.lt_or_ge p u with h8|h8
   .have:=h.k5 u p om h8;omega
   .omega
 .have J:v<X.F:=G;rcases h.k2 v om with ⟨_,O⟩|⟨p,O,h3,_⟩
  .rw [show X.ix.par v = -1 from O];omega
  .rw [show X.ix.par v=p from O];have:=kf v G p h3;omega
 .have J:v<X.F:=G;obtain ⟨z,hz,hb,hk,a2,hw,h0⟩:=((h.t2 v J _).2 p).1 hp;refine ⟨h0,?_⟩;have U:∀ u,u=v∨u∈X.K v->z.getD u X.d0=(y++[p.1]).getD u X.d0:=by
   intro u o;rcases o with rfl|o
   .rw [a2];simp [List.getD,<-hy]
   .rw [Jkm (by rw [hy];exact kf v J u o)];obtain ⟨j,hj,ej⟩:=List.getElem_of_mem o;have:=congrArg (λl=>l.getD j X.d0) hk;rw [Ie X.d0 hj]at this;have e2:(X.ix.key v y).getD j X.d0=y.getD ((X.K v).getD j 0) X.d0:=Ie X.d0 hj;rw [e2]at this;rw [<-ej];simpa [List.getD,List.getElem?_eq_getElem hj] using this
  have Z:0<X.W v z:=by rw [<-hw];exact h0
  rw [hw,BX.W];have e3:∀ c,c<X.N->X.par c=v->X.T c (prj X.d0 (X.K c) z)=X.T c (prj X.d0 (X.K c) (y++[p.1])):=λc hc C=>by
   rw [Jvq λu o=>U u ((h.kpar hc C).2.2.2 u o)]
  rw [Jrj a5 (λc a3 a1=>?_)]
  .refine Gk λc hc=>?_;have a4:c<X.F:=hc;show _=if X.par c=v then tot (X.E c (prj X.d0 (X.K c) (y++[p.1]))) else 1
   split
   .rename_i C;rw [e3 c om C,(h.t2 c a4 _).1]
   .rfl
  .by_cases C:X.par c=v
   .have h5:=prodR_pos.1 Z c a1;rw [if_pos C]at h5 ⊢;have:=(h.t1 c a3 a1 (prj X.d0 (X.K c) z)).1;omega
   .rw [if_neg C]
end
def Yr(v:Nat)(nb:Nat->Nat->Bool): Nat->Nat->Bool:=λu x=>if nb v u then (nb u x || nb v x) && (x != u) && (x != v) else nb u x
def Ze(nb:Nat->Nat->Bool): List Nat->Nat->Nat->Bool
 | []=>nb
 | v::l=>Ze (Yr v nb) l
theorem Jdq(nb:Nat->Nat->Bool)(l m:List Nat): Ze nb (l++m)=Ze (Ze nb l) m:=by
 induction l generalizing nb with
 | nil=>rfl
 | cons v l ih=>exact ih _
structure NbInv(l:List Nat)(nb:Nat->Nat->Bool): Prop where
 sym:∀ u x,u ∉ l->x ∉ l->nb u x=nb x u
 gone:∀ u x,u ∉ l->nb u x=true->x ∉ l/\x≠u
theorem NbInv.step{nb:Nat->Nat->Bool}(h:NbInv l nb)(hv:v ∉ l): NbInv (l++[v]) (Yr v nb):=by
 have ns:∀ {u},u ∉ l++[v]->u ∉ l/\u≠v:=λG=>by rw [List.mem_append,List.mem_singleton,not_or]at G;exact G
 constructor
 .intro u x G o;obtain ⟨C,Z⟩:=ns G;obtain ⟨x1,x2⟩:=ns o;have U:=h.sym u x C x1;unfold Yr;by_cases e1:nb v u=true<;>by_cases e2:nb v x=true
  .rw [if_pos e1,if_pos e2,e1,e2,U];have O:(x != v)=true:=bne_iff_ne.2 x2;have b2:(u != v)=true:=bne_iff_ne.2 Z;rw [O,b2];by_cases e:x=u
   .subst e;rfl
   .rw [bne_iff_ne.2 e,bne_iff_ne.2 (λe'=>e e'.symm)]
  .rw [if_pos e1,if_neg e2];have O:(x != v)=true:=bne_iff_ne.2 x2;rw [Bool.not_eq_true]at e2;rw [e2,O,Bool.or_false,Bool.and_true,<-U];cases e3:nb u x with
   | false=>rfl
   | true=>rw [bne_iff_ne.2 (h.gone u x C e3).2];rfl
  .rw [if_neg e1,if_pos e2];have O:(u != v)=true:=bne_iff_ne.2 Z;rw [Bool.not_eq_true]at e1;rw [e1,O,Bool.or_false,Bool.and_true,U];cases e3:nb x u with
   | false=>rfl
   | true=>rw [bne_iff_ne.2 (h.gone x u x1 e3).2];rfl
  .rw [if_neg e1,if_neg e2];exact U
 .intro u x G o;obtain ⟨C,Z⟩:=ns G;unfold Yr at o;rw [List.mem_append,List.mem_singleton,not_or];by_cases e1:nb v u=true
  .rw [if_pos e1]at o;simp only [Bool.and_eq_true,Bool.or_eq_true,bne_iff_ne]at o;refine ⟨⟨?_,o.2⟩,o.1.2⟩;rcases o.1.1 with J|J
   .exact (h.gone u x C J).1
   .exact (h.gone v x hv J).1
  .rw [if_neg e1]at o;obtain ⟨J,h2⟩:=h.gone u x C o;refine ⟨⟨J,λe=>?_⟩,h2⟩;subst e;exact e1 ((h.sym x u J C).trans o)
theorem NbInv.at{nb:Nat->Nat->Bool}(h:NbInv [] nb): ∀ {l:List Nat},l.Nodup->NbInv l (Ze nb l):=by
 intro l;have key:∀ (l m:List Nat) (o:Nat->Nat->Bool),NbInv m o->(m++l).Nodup->NbInv (m++l) (Ze o l):=by
  intro l;induction l with
  | nil=>intro m o h _;rw [List.append_nil];exact h
  | cons v l ih=>
   intro m o h hn;have u:v ∉ m:=by
    rw [List.nodup_append]at hn;exact λC=>hn.2.2 v C v (mC ..) rfl
   have e:m++v::l=(m++[v])++l:=by simp
   rw [e]at hn ⊢;exact ih (m++[v]) _ (h.step u) hn
 intro hn;exact key l [] nb h hn
theorem Jdp{p x:Nat}(hx:x≠p): ∀ {mid:List Nat} {nb:Nat->Nat->Bool},nb p x=true->x ∉ mid->Ze nb mid p x=true
 | [],_,h,_=>h
 | w::mid,nb,h,hm=>by
  rw [Ze];refine Jdp hx ?_ (λh'=>hm (List.mem_cons_of_mem _ h'));have hw:x≠w:=λe=>hm (by rw [e];exact mC ..);unfold Yr;split
  .rw [h,bne_iff_ne.2 hx,bne_iff_ne.2 hw];rfl
  .exact h
def pre(ord:List Nat)(v:Nat): List Nat:=ord.takeWhile (· != v)
def Zb(nb:Nat->Nat->Bool)(ord:List Nat)(v u:Nat): Bool:=Ze nb (pre ord v) v u
theorem Jdj(h:v ∉ l): pre (l++v::r) v=l:=by
 induction l with
 | nil=>simp [pre]
 | cons x l ih=>
  have o:(x != v)=true:=bne_iff_ne.2 λe=>h (by rw [e];exact mC ..);unfold pre at ih ⊢;rw [List.cons_append,List.takeWhile_cons,if_pos o,ih (λu=>h (List.mem_cons_of_mem _ u))]
theorem Jvc(h:v∈ord): ∃ r,ord=pre ord v++v::r/\v ∉ pre ord v:=by
 obtain ⟨l,r,e,hn⟩:=List.append_of_mem h |>.elim λl C=>C.elim λr e=>(⟨l,r,e,trivial⟩:∃ l r,ord=l++v::r/\True);clear hn;have:∀ l:List Nat,∃ o,l++v::r=pre (l++v::r) v++v::o/\v ∉ pre (l++v::r) v:=by
  intro l;induction l with
  | nil=>exact ⟨r,by simp [pre],by simp [pre]⟩
  | cons x l ih=>
   by_cases e:x=v
   .subst e;exact ⟨l++x::r,by simp [pre],by simp [pre]⟩
   .obtain ⟨o,J,G⟩:=ih;have u:pre (x::l++v::r) v=x::pre (l++v::r) v:=by
     unfold pre;rw [List.cons_append,List.takeWhile_cons,if_pos (by simpa using e)]
    refine ⟨o,by rw [u,List.cons_append,List.cons_append,<-J],?_⟩;rw [u,List.mem_cons,not_or];exact ⟨λO=>e O.symm,G⟩
 rw [e];exact this l
def Jwn(ord:List Nat)(v u:Nat): Prop:=u ∉ pre ord v
section
variable {nb:Nat->Nat->Bool} {ord:List Nat} (h0:NbInv [] nb) (hn:ord.Nodup)
theorem Jrk(hn:ord.Nodup)(v:Nat): (pre ord v).Nodup:=hn.sublist (List.takeWhile_sublist _)
include h0 hn
theorem Jfm(hv:v∈ord)(hk:Zb nb ord v u=true): Jwn ord v u/\u≠v:=by
 obtain ⟨r,e,o⟩:=Jvc hv;exact (h0.at (Jrk hn v)).gone v u o hk
omit h0 hn in
theorem Jyg(hN:∀ u x,nb u x=true->x<N)(hk:Zb nb ord v u=true): u<N:=by
 have:∀ (l:List Nat) (nb:Nat->Nat->Bool),(∀ u x,nb u x=true->x<N)->∀ u x,Ze nb l u x=true->x<N:=by
  intro l;induction l with
  | nil=>intro nb h;exact h
  | cons w l ih=>
   intro nb h;refine ih _ λu x o=>?_;unfold Yr at o;split at o
   .simp only [Bool.and_eq_true,Bool.or_eq_true]at o;rcases o.1.1 with h1|h1<;>exact h _ _ h1
   .exact h _ _ o
 exact this _ _ hN _ _ hk
theorem Qll(hv:v∈ord)(hp:p∈ord)(hkp:Zb nb ord v p=true)(hmin:∀ u,Zb nb ord v u=true->Jwn ord p u)(hkx:Zb nb ord v x=true)(hx:x≠p): Zb nb ord p x=true:=by
 obtain ⟨r,e,h1⟩:=Jvc hv;obtain ⟨r2,e2,h2⟩:=Jvc hp;have o:=Jfm h0 hn hv hkp;have O:=Jfm h0 hn hv hkx;have Z:v∈pre ord p:=by
  have h3:p∈pre ord v∨v∈pre ord p:=by
   have a1:p∈pre ord v++v::r:=e ▸ hp;rcases List.mem_append.1 a1 with h4|h4
   .exact .inl h4
   .have h5:p∈r:=(List.mem_cons.1 h4).resolve_left o.2;obtain ⟨a,b,eb⟩:=List.append_of_mem h5;have e3:ord=(pre ord v++v::a)++p::b:=by
     have e':=e;rw [eb]at e';rw [List.append_assoc];exact e'
    have h6:p ∉ pre ord v++v::a:=by
     intro h7;rw [e3,List.nodup_append]at hn;exact hn.2.2 p h7 p (mC ..) rfl
    have:=Jdj (r:=b) h6;rw [<-e3]at this;rw [this];exact .inr (List.mem_append_right _ (mC ..))
  exact h3.resolve_left o.1
 obtain ⟨m,m2,J⟩:=List.append_of_mem Z;have hm:m=pre ord v:=by
  have U:v ∉ m:=by
   have:=Jrk hn p;rw [J,List.nodup_append]at this;exact λh'=>this.2.2 v h' v (mC ..) rfl
  have:=Jdj (l:=m) (r:=m2++p::r2) U;rw [<-this];congr 1
  rw [e2,J];simp
 unfold Zb;rw [J,Jdq,Ze,hm];refine Jdp hx ?_ λh'=>?_
 .have G:Ze nb (pre ord v) v p=true:=hkp;have C:Ze nb (pre ord v) v x=true:=hkx;unfold Yr;rw [if_pos G,C,bne_iff_ne.2 hx,bne_iff_ne.2 O.2];simp
 .exact hmin x hkx (by rw [J];exact List.mem_append_right _ (List.mem_cons_of_mem _ h'))
omit h0 hn in
theorem Qlm(hb:nb v u=true)(hne:u≠v)(hl:Jwn ord v u): Zb nb ord v u=true:=Jdp hne hb hl
end
end Pl
namespace Pl
variable {m n:Nat}{x y z:Row}{a b:V}
theorem Qqz{ds:List Bool}: ∀ {m:Nat} {x z:Row},x.take m=z.take m->m<x.length->m<z.length->cmpV (x.getD m V0) (z.getD m V0)≠0->Jw x z ds=neg (ds.getD m false) (cmpV (x.getD m V0) (z.getD m V0))
 | 0,a::x,b::z,_,_,_,h=>by
  simp only [List.getD_cons_zero]at h ⊢;simp only [Jw];rw [if_neg h]
 | m+1,a::x,b::z,h,h1,h2,h3=>by
  simp only [List.take_succ_cons,List.cons.injEq]at h;simp only [List.getD_cons_succ]at h3 ⊢;simp only [Jw];rw [if_pos (by rw [h.1];exact Zh b),Qqz h.2 (by simpa using h1) (by simpa using h2) h3];simp [List.getD]
 | _,[],_,_,h,_,_=>by simp at h
 | _,_::_,[],_,_,h,_=>by simp at h
theorem neg_lt{d:Bool}(h:neg d (cmpV a b)<0): cmpV a b≠0:=by
 intro e;rw [e]at h;unfold neg at h;split at h<;>omega
theorem Jyc(d:Bool)(a b:V): neg d (cmpV b a) = - neg d (cmpV a b):=(Jkz d).anti a b
theorem Qqw{ds:List Bool}(h:x.take m=z.take m)(h1:m<x.length)(h2:m<z.length)(h3:neg (ds.getD m false) (cmpV (x.getD m V0) (z.getD m V0))<0): Jw x z ds<0:=by
 rw [Qqz h h1 h2 (neg_lt h3)];exact h3
def Jjs(d:Bool)(l:List (V×Nat)): Prop:=l.Pairwise λp q=>neg d (cmpV p.1 q.1)<0
abbrev IX:= AX V
structure AX.Srt(X:IX)(ds:List Bool): Prop where
 d0:X.d0=V0
 srt:∀ v,v<X.F->∀ k,Jjs (ds.getD v false) (X.E v k)
theorem AX.ext_at_col{X:IX}(hx:x∈X.ext n (y++[a])): x.length=y.length+1+n/\x.take y.length=y/\x.getD y.length V0=a:=by
 obtain ⟨u,o,_⟩:=(AX.ext_mem n _ x).1 hx;rw [List.length_append,List.length_singleton]at u o;refine ⟨u,?_,?_⟩
 .have:=congrArg (List.take y.length) o;rw [List.take_take,Nat.min_eq_left om,List.take_append_of_le_length (Nat.le_refl _),List.take_length]at this;exact this
 .have:=congrArg (λl=>l.getD y.length V0) o;simpa [List.getD] using this
theorem AX.Srt.ext{X:IX}{ds:List Bool}(h:X.Srt ds): ∀ (n:Nat) (y:Row),y.length+n=X.F->Lt ds (X.ext n y)
 | 0,y,_=>List.pairwise_singleton _ _
 | n+1,y,e=>by
  rw [AX.ext];refine List.pairwise_flatMap.2 ⟨λp _=>h.ext n _ (by simp;omega),(h.srt y.length om _).imp fun {p q} hpq x hx z hz=>?_⟩;obtain ⟨h1,h2,h3⟩:=AX.ext_at_col hx;obtain ⟨h4,h5,h6⟩:=AX.ext_at_col hz;exact Qqw (m:=y.length) (by rw [h2,h5]) om om (by rw [h3,h6];exact hpq)
def bef(d:Bool)(v:V): List (V×Nat)->Nat
 | []=>0
 | p::l=>(if neg d (cmpV p.1 v)<0 then p.2 else 0)+bef d v l
end Pl
namespace Pl
inductive Tr where
 | nil
 | node (l:Tr) (v:V) (x:Nat) (r:Tr)
namespace Tr
def ht: Tr->Nat
 | .nil=>0
 | .node l _ _ r=>max l.ht r.ht+1
def sz: Tr->Nat
 | .nil=>0
 | .node l _ _ r=>l.sz+1+r.sz
def sum: Tr->Nat
 | .nil=>0
 | .node l _ x r=>l.sum+x+r.sum
def toL: Tr->List (V×Nat)
 | .nil=>[]
 | .node l v x r=>l.toL++(v,x)::r.toL
theorem sum_eq: ∀ t:Tr,t.sum=tot t.toL
 | .nil=>rfl
 | .node l v x r=>by rw [sum,toL,Jzj,tot,sum_eq l,sum_eq r];simp only;omega
theorem sz_eq: ∀ t:Tr,t.sz=t.toL.length
 | .nil=>rfl
 | .node l v x r=>by rw [sz,toL,List.length_append,List.length_cons,sz_eq l,sz_eq r];omega
theorem ht_le: ∀ t:Tr,t.ht<=t.sz
 | .nil=>Nat.le_refl _
 | .node l v x r=>by have:=ht_le l;have:=ht_le r;simp only [ht,sz];omega
def left: Tr->Tr
 | .nil=>.nil
 | .node l _ _ _=>l
def right: Tr->Tr
 | .nil=>.nil
 | .node _ _ _ r=>r
def bal(l:Tr)(v:V)(x:Nat)(r:Tr): Tr :=
 if r.ht+1<l.ht then
  match l with
  | .nil=>.node .nil v x r
  | .node ll lv lx lr=>
   if lr.ht<=ll.ht then .node ll lv lx (.node lr v x r)
   else match lr with
    | .nil=>.node (.node ll lv lx .nil) v x r
    | .node ml mv mx mr=>.node (.node ll lv lx ml) mv mx (.node mr v x r)
 else if l.ht+1<r.ht then
  match r with
  | .nil=>.node l v x .nil
  | .node rl rv rx rr=>
   if rl.ht<=rr.ht then .node (.node l v x rl) rv rx rr
   else match rl with
    | .nil=>.node l v x (.node .nil rv rx rr)
    | .node ml mv mx mr=>.node (.node l v x ml) mv mx (.node mr rv rx rr)
 else .node l v x r
theorem toL_bal(l:Tr)(v:V)(x:Nat)(r:Tr): (bal l v x r).toL=l.toL++(v,x)::r.toL:=by
 unfold bal;split
 .cases l with
  | nil=>rfl
  | node ll lv lx lr=>
   simp only;split
   .simp [toL]
   .cases lr<;>simp [toL]
 .split
  .cases r with
   | nil=>rfl
   | node rl rv rx rr=>
    simp only;split
    .simp [toL]
    .cases rl<;>simp [toL]
  .rfl
def put(d:Bool)(v:V)(x:Nat): Tr->Tr
 | .nil=>.node .nil v x .nil
 | .node l a y r=>if neg d (cmpV v a)<0 then bal (put d v x l) a y r else if 0<neg d (cmpV v a) then bal l a y (put d v x r) else .node l v x r
theorem put_last{d:Bool}{v:V}{x:Nat}: ∀ {t:Tr},(∀ p∈t.toL,0<neg d (cmpV v p.1))->(put d v x t).toL=t.toL++[(v,x)]
 | .nil,_=>rfl
 | .node l a y r,h=>by
  have h1:=h (a,y) (by simp [toL]);have h2:=put_last (d:=d) (v:=v) (x:=x) (t:=r) (λp hp=>h p (by simp [toL,hp]));simp only at h1;rw [put,if_neg om,if_pos h1,toL_bal,h2];simp [toL]
theorem put_first{d:Bool}{v:V}{x:Nat}: ∀ {t:Tr},(∀ p∈t.toL,neg d (cmpV v p.1)<0)->(put d v x t).toL=(v,x)::t.toL
 | .nil,_=>rfl
 | .node l a y r,h=>by
  have h1:=h (a,y) (by simp [toL]);have h2:=put_first (d:=d) (v:=v) (x:=x) (t:=l) (λp hp=>h p (by simp [toL,hp]));simp only at h1;rw [put,if_pos h1,toL_bal,h2];simp [toL]
theorem Qzp(l:Tr)(v:V)(x:Nat)(r:Tr): (bal l v x r).sz=l.sz+1+r.sz:=by rw [sz_eq,toL_bal,List.length_append,List.length_cons,sz_eq l,sz_eq r];omega
theorem put_sz(d:Bool)(v:V)(x:Nat): ∀ t:Tr,(put d v x t).sz<=t.sz+1
 | .nil=>Nat.le_refl _
 | .node l a y r=>by
  have h1:=put_sz d v x l;have h2:=put_sz d v x r;unfold put;split
  .rw [Qzp,sz];omega
  .split
   .rw [Qzp,sz];omega
   .rw [sz,sz];omega
def befT(d:Bool)(v:V): Tr->Nat
 | .nil=>0
 | .node l a y r=>if neg d (cmpV v a)<0 then befT d v l else if neg d (cmpV v a)=0 then l.sum else l.sum+y+befT d v r
def hasT(d:Bool)(v:V): Tr->Bool
 | .nil=>false
 | .node l a y r=>if neg d (cmpV v a)<0 then hasT d v l else if neg d (cmpV v a)=0 then true else hasT d v r
theorem Xjj(d:Bool)(v:V)(l m:List (V×Nat)): bef d v (l++m)=bef d v l+bef d v m:=by
 induction l with
 | nil=>simp [bef]
 | cons p l ih=>rw [List.cons_append,bef,bef,ih,Nat.add_assoc]
theorem Jhf{d:Bool}{v:V}: ∀ {l:List (V×Nat)},(∀ p∈l,neg d (cmpV p.1 v)<0)->bef d v l=tot l
 | [],_=>rfl
 | p::l,h=>by rw [bef,tot,if_pos (h p (mC ..)),Jhf λq hq=>h q (List.mem_cons_of_mem _ hq)]
theorem Jhd{d:Bool}{v:V}: ∀ {l:List (V×Nat)},(∀ p∈l,¬ neg d (cmpV p.1 v)<0)->bef d v l=0
 | [],_=>rfl
 | p::l,h=>by rw [bef,if_neg (h p (mC ..)),Jhd λq hq=>h q (List.mem_cons_of_mem _ hq)]
theorem befT_eq{d:Bool}{v:V}: ∀ {t:Tr},Jjs d t.toL->befT d v t=bef d v t.toL/\(hasT d v t=true↔v∈t.toL.map (·.1))
 | .nil,_=>⟨rfl,by simp [hasT,toL]⟩
 | .node l a y r,h=>by
  have N:=Jkz d;obtain ⟨h1,h2,h3⟩:=List.pairwise_append.1 h;obtain ⟨h4,h5⟩:=List.pairwise_cons.1 h2;have il:=befT_eq (v:=v) h1;have ir:=befT_eq (v:=v) h5;have hla:∀ p∈l.toL,neg d (cmpV p.1 a)<0:=λp hp=>h3 p hp (a,y) (mC ..);have hva:=Jyc d v a;rw [toL,befT,hasT,Xjj,bef];by_cases c1:neg d (cmpV v a)<0
  .have hr:∀ p∈r.toL,¬ neg d (cmpV p.1 v)<0:=λp hp h'=>by
    have:=N.trans p.1 v a om om;have:=h4 p hp;have:=Jyc d a p.1;simp only at *;omega
   rw [if_pos c1,if_pos c1,il.1,Jhd hr,if_neg (by simp only;omega)];refine ⟨om,?_⟩;rw [il.2,List.map_append,List.mem_append,List.map_cons,List.mem_cons];constructor
   .exact .inl
   .rintro (h'|rfl|h')
    .exact h'
    .rw [Zh]at c1;unfold neg at c1;split at c1<;>omega
    .obtain ⟨p,hp,rfl⟩:=List.mem_map.1 h';have:=h4 p hp;have:=Jyc d a p.1;simp only at *;omega
  .rw [if_neg c1,if_neg c1];by_cases c0:neg d (cmpV v a)=0
   .have e:v=a:=N.zero v a c0;subst e;have hr:∀ p∈r.toL,¬ neg d (cmpV p.1 v)<0:=λp hp h'=>by
     have:=h4 p hp;have:=Jyc d v p.1;simp only at *;omega
    rw [if_pos c0,if_pos c0,Jhf hla,Jhd hr,if_neg (by simp only;omega),sum_eq];exact ⟨om,by simp⟩
   .rw [if_neg c0,if_neg c0];have hl:∀ p∈l.toL,neg d (cmpV p.1 v)<0:=λp hp=>by
     have h1:=hla p hp;have h2:=N.trans p.1 a v om om;have h3:neg d (cmpV p.1 v)≠0:=λe=>by
      have:=N.zero p.1 v e;rw [this]at h1;omega
     simp only at *;omega
    rw [Jhf hl,if_pos (by simp only;omega),ir.1,sum_eq];refine ⟨by simp only;omega,?_⟩;rw [ir.2,List.map_append,List.mem_append,List.map_cons,List.mem_cons];constructor
    .exact λh'=>.inr (.inr h')
    .rintro (h'|rfl|h')
     .obtain ⟨p,hp,rfl⟩:=List.mem_map.1 h';have:=hl p hp;rw [Zh]at this;unfold neg at this;split at this<;>omega
     .exact absurd (by rw [Zh];unfold neg;split<;>rfl) c0
     .exact h'
def findT(k:Nat): Tr->V×Nat
 | .nil=>(V0,0)
 | .node l a y r=>if k<l.sum then findT k l else if l.sum+y<=k then ((findT (k-(l.sum+y)) r).1,l.sum+y+(findT (k-(l.sum+y)) r).2) else (a,l.sum)
theorem findT_eq: ∀ {t:Tr} {k:Nat},k<t.sum->∃ l1 l2 y,t.toL=l1++((findT k t).1,y)::l2/\tot l1=(findT k t).2/\(findT k t).2<=k/\k<(findT k t).2+y
 | .nil,k,h=>by simp [sum]at h
 | .node l a y r,k,h=>by
  rw [sum]at h;rw [findT,toL];split
  .rename_i h1;obtain ⟨l1,l2,z,e1,e2,e3,e4⟩:=findT_eq h1;exact ⟨l1,l2++(a,y)::r.toL,z,by rw [e1];simp,e2,e3,e4⟩
  .split
   .rename_i h1 h2;obtain ⟨l1,l2,z,e1,e2,e3,e4⟩:=findT_eq (t:=r) (k:=k-(l.sum+y)) om;refine ⟨l.toL++(a,y)::l1,l2,z,?_,?_,?_,?_⟩
    .simp only;rw [List.append_assoc,List.cons_append,<-e1]
    .rw [Jzj,tot,e2,sum_eq];simp only;omega
    .simp only;omega
    .simp only;omega
   .exact ⟨l.toL,r.toL,y,rfl,(sum_eq l).symm,by simp only;omega,by simp only;omega⟩
end Tr
end Pl
namespace Pl
variable {d:Bool}{l:List (V×Nat)}{rs:List Row}{m:Nat}{k x:Row}{wt:Row->Nat}{p:V×Nat}
def Qt(wt:Row->Nat)(m:Nat)(rs:List Row)(k:Row): List (V×Nat):=(rs.filter λx=>decide (x.take m=k) && decide (0<wt x)).map λx=>(x.getD m V0,wt x)
def stepG(d:Bool)(wt:Row->Nat)(m:Nat)(bs:List (Row×Tr))(x:Row): List (Row×Tr) :=
 if wt x=0 then bs
 else if (bs.getLast?.map (·.1))=some (x.take m) then bs.dropLast++[(x.take m,Tr.put d (x.getD m V0) (wt x) ((bs.getLast?.map (·.2)).getD .nil))]
 else bs++[(x.take m,Tr.put d (x.getD m V0) (wt x) .nil)]
def Vc(d:Bool)(l:List (V×Nat)): List (V×Nat):=if d then l.reverse else l
structure GInv(d:Bool)(wt:Row->Nat)(m:Nat)(rs:List Row)(bs:List (Row×Tr)): Prop where
 lt:Lt [] (bs.map (·.1))
 con:∀ b∈bs,b.2.toL=Vc d (Qt wt m rs b.1)/\Qt wt m rs b.1≠[]
 all:∀ k,Qt wt m rs k≠[]->k∈bs.map (·.1)
theorem Jgj(wt:Row->Nat)(m:Nat)(rs:List Row)(x k:Row): Qt wt m (rs++[x]) k=Qt wt m rs k++if x.take m=k/\0<wt x then [(x.getD m V0,wt x)] else []:=by
 unfold Qt;rw [List.filter_append,List.map_append];congr 1
 by_cases h:x.take m=k/\0<wt x
 .rw [if_pos h,List.filter_cons_of_pos (by simp [h]),List.filter_nil];rfl
 .rw [if_neg h,List.filter_cons_of_neg (by simpa using h),List.filter_nil];rfl
theorem entL_mem: p∈Qt wt m rs k↔∃ x∈rs,x.take m=k/\x.getD m V0=p.1/\wt x=p.2/\0<p.2:=by
 unfold Qt;rw [List.mem_map];constructor
 .rintro ⟨x,u,rfl⟩;obtain ⟨C,o⟩:=List.mem_filter.1 u;simp only [Bool.and_eq_true,decide_eq_true_eq]at o;exact ⟨x,C,o.1,rfl,rfl,o.2⟩
 .rintro ⟨x,u,C,o,G,J⟩;refine ⟨x,List.mem_filter.2 ⟨u,by simp [C,G,J]⟩,?_⟩;rw [o,G]
theorem entL_ne: Qt wt m rs k≠[]↔∃ x∈rs,x.take m=k/\0<wt x:=by
 constructor
 .intro h;obtain ⟨p,G⟩:=List.exists_mem_of_ne_nil _ h;obtain ⟨x,u,o,C,O,J⟩:=entL_mem.1 G;exact ⟨x,u,o,om⟩
 .rintro ⟨x,u,o,C⟩ e;have:=(entL_mem (p:=(x.getD m V0,wt x))).2 ⟨x,u,o,rfl,rfl,C⟩;rw [e]at this;cases this
theorem Qqt: ∀ (m:Nat) {x y:Row},Jw x y []<0->Jw (x.take m) (y.take m) []<=0
 | 0,x,y,_=>by simp [Jw]
 | m+1,[],[],h=>by simp [Jw]
 | m+1,[],b::y,h=>by simp [Jw]
 | m+1,a::x,[],h=>by simp [Jw]at h
 | m+1,a::x,b::y,h=>by
  simp only [Jw,List.take_succ_cons,List.drop_nil]at h ⊢;by_cases e:cmpV a b=0
  .rw [if_pos e]at h ⊢;exact Qqt m h
  .rw [if_neg e]at h ⊢;omega
theorem Jgs: ∀ (m:Nat) {x y:Row},Jw x y []<0->x.take m=y.take m->x.length=m+1->y.length=m+1->cmpV (x.getD m V0) (y.getD m V0)<0
 | 0,[a],[b],h,_,_,_=>by
  simp only [Jw]at h;by_cases e:cmpV a b=0
  .rw [if_pos e]at h;omega
  .rw [if_neg e]at h;exact h
 | m+1,a::x,b::y,h,ht,h1,h2=>by
  simp only [List.take_succ_cons,List.cons.injEq]at ht;simp only [Jw,List.drop_nil]at h;rw [if_pos (by rw [ht.1];exact Zh b)]at h;simp only [List.getD_cons_succ];exact Jgs m h ht.2 (by simpa using h1) (by simpa using h2)
theorem Jym{α:Type}{l:List α}(h:l≠[]): ∃ i z,l=i++[z]/\l.getLast?=some z/\l.dropLast=i:=by
 refine ⟨l.dropLast,l.getLast h,(List.dropLast_concat_getLast h).symm,List.getLast?_eq_some_getLast h,rfl⟩
theorem GInv.step{bs:List (Row×Tr)}(h:GInv d wt m rs bs)(hs:Lt [] (rs++[x]))(hl:∀ y∈rs++[x],y.length=m+1): GInv d wt m (rs++[x]) (stepG d wt m bs x):=by
 have a6:=hl x (by simp);have a3:∀ y∈rs,Jw y x []<0:=λy hy=>(List.pairwise_append.1 hs).2.2 y hy x (by simp);by_cases h0:wt x=0
 .have e:∀ k,Qt wt m (rs++[x]) k=Qt wt m rs k:=λk=>by rw [Jgj,if_neg om,List.append_nil]
  rw [stepG,if_pos h0];exact ⟨h.lt,λb u=>by rw [e];exact h.con b u,λk o=>h.all k (by rw [<-e k];exact o)⟩
 have h1:0<wt x:=om
 have eo:∀ k,k≠x.take m->Qt wt m (rs++[x]) k=Qt wt m rs k:=λk o=>by rw [Jgj,if_neg (λU=>o U.1.symm),List.append_nil]
 have ex:Qt wt m (rs++[x]) (x.take m)=Qt wt m rs (x.take m)++[(x.getD m V0,wt x)]:=by rw [Jgj,if_pos ⟨rfl,h1⟩]
 have J:∀ k∈bs.map (·.1),Jw k (x.take m) []<=0:=λk o=>by
  obtain ⟨b,u,rfl⟩:=List.mem_map.1 o;obtain ⟨y,hy,e,_⟩:=entL_ne.1 (h.con b u).2;rw [<-e];exact Qqt m (a3 y hy)
 have O:∀ p∈Qt wt m rs (x.take m),cmpV p.1 (x.getD m V0)<0:=λp Z=>by
  obtain ⟨y,hy,C,e2,_⟩:=entL_mem.1 Z;rw [<-e2];exact Jgs m (a3 y hy) C (hl y (by simp [hy])) a6
 have G:∀ t:Tr,t.toL=Vc d (Qt wt m rs (x.take m))->(Tr.put d (x.getD m V0) (wt x) t).toL=Vc d (Qt wt m (rs++[x]) (x.take m)):=λt ht=>by
  rw [ex];cases d with
  | false=>
   rw [Tr.put_last,ht];· rfl
   intro p Z;rw [ht]at Z;have:=O p Z;have:=cmp_V.anti p.1 (x.getD m V0);simp only [neg];rw [if_neg (by simp)];omega
  | true=>
   rw [Tr.put_first,ht];· simp [Vc]
   intro p Z;rw [ht]at Z;have:=O p (by simpa [Vc] using Z);have:=cmp_V.anti p.1 (x.getD m V0);simp only [neg];rw [if_pos trivial];omega
 rw [stepG,if_neg h0];by_cases hl2:(bs.getLast?.map (·.1))=some (x.take m)
 .rw [if_pos hl2];have a2:bs≠[]:=by intro e;rw [e]at hl2;cases hl2
  obtain ⟨i,z,C,e2,e3⟩:=Jym a2;rw [e2]at hl2 ⊢;have hz:z.1=x.take m:=by simpa using hl2
  rw [e3];have a5:=h.con z (by rw [C];simp);have a7:∀ b∈i,b.1≠x.take m:=λb u e=>by
   have:=h.lt;rw [C,List.map_append]at this;have:=(List.pairwise_append.1 this).2.2 b.1 (List.mem_map_of_mem u) z.1 (by simp);rw [hz,e,Yw]at this;omega
  refine ⟨?_,λb u=>?_,λk o=>?_⟩
  .have:=h.lt;rw [C]at this;simpa [hz] using this
  .rcases List.mem_append.1 u with u|u
   .rw [eo _ (a7 b u)];exact h.con b (by rw [C];simp [u])
   .rw [List.mem_singleton.1 u];refine ⟨G _ (by rw [<-hz];simpa using a5.1),?_⟩;simp only;rw [ex];simp
  .by_cases e:k=x.take m
   .rw [e];simp
   .rw [eo k e]at o;have:=h.all k o;rw [C,List.map_append,List.mem_append]at this;rcases this with U|U
    .rw [List.map_append,List.mem_append];exact .inl U
    .rw [List.map_singleton,List.mem_singleton,hz]at U;exact absurd U e
 .rw [if_neg hl2];have a1:x.take m ∉ bs.map (·.1):=λo=>by
   have a2:bs≠[]:=by intro e;rw [e]at o;cases o
   obtain ⟨i,z,C,e2,e3⟩:=Jym a2;rw [e2]at hl2;have hz:z.1≠x.take m:=λe=>hl2 (by simp [e]);rw [C,List.map_append,List.mem_append]at o;have h5:=h.lt;rw [C,List.map_append]at h5;rcases o with o|o
   .have h6:=(List.pairwise_append.1 h5).2.2 _ o z.1 (by simp);have h7:=J z.1 (by rw [C];simp);have:=Gd [] |>.anti (x.take m) z.1;omega
   .rw [List.map_singleton,List.mem_singleton]at o;exact hz o.symm
  have he:Qt wt m rs (x.take m)=[]:=Classical.byContradiction λU=>a1 (h.all _ U);refine ⟨?_,λb u=>?_,λk o=>?_⟩
  .rw [List.map_append];refine List.pairwise_append.2 ⟨h.lt,by simp,λk o k' a4=>?_⟩;rw [List.map_singleton,List.mem_singleton]at a4;rw [a4];have h7:=J k o;have h8:Jw k (x.take m) []≠0:=λe=>a1 (by rw [<-(Gd []).zero _ _ e];exact o);simp only;omega
  .rcases List.mem_append.1 u with u|u
   .have a8:b.1∈bs.map (·.1):=List.mem_map_of_mem u
    rw [eo _ (λe=>a1 (by rw [<-e];exact a8))];exact h.con b u
   .rw [List.mem_singleton.1 u];refine ⟨G _ (by rw [he];cases d<;>rfl),?_⟩;simp only;rw [ex];simp
  .by_cases e:k=x.take m
   .rw [e];simp
   .rw [eo k e]at o;rw [List.map_append,List.mem_append];exact .inl (h.all k o)
theorem GInv.nil(d:Bool)(wt:Row->Nat)(m:Nat): GInv d wt m [] []:=⟨List.Pairwise.nil,λb u=>(by cases u),λk o=>absurd rfl o⟩
def entK(bs:List (Row×Tr))(k:Row): List (V×Nat):=match bs.find? λb=>decide (b.1=k) with
 | some b=>b.2.toL
 | none=>[]
theorem GInv.entK{d:Bool}{wt:Row->Nat}{m:Nat}{rs:List Row}{bs:List (Row×Tr)}(h:GInv d wt m rs bs)(k:Row): entK bs k=Vc d (Qt wt m rs k):=by
 unfold Pl.entK;cases hf:bs.find? λb=>decide (b.1=k) with
 | some b=>
  have o:=List.mem_of_find?_eq_some hf;have u:=List.find?_some hf;simp only [decide_eq_true_eq]at u;simp only;rw [<-u];exact (h.con b o).1
 | none=>
  have o:=List.find?_eq_none.1 hf;have:Qt wt m rs k=[]:=Classical.byContradiction λG=>by
   obtain ⟨b,C,e⟩:=List.mem_map.1 (h.all k G);exact o b C (by simpa using e)
  rw [this];cases d<;>rfl
theorem Qnt(hs:Lt [] rs)(hl:∀ y∈rs,y.length=m+1)(k:Row): (Qt wt m rs k).Pairwise λp q=>cmpV p.1 q.1<0:=by
 unfold Qt;rw [List.pairwise_map];refine List.Pairwise.imp_of_mem (R:=λx y:Row=>Jw x y []<0) (fun {x y} hx hy h=>?_) (hs.sublist List.filter_sublist);obtain ⟨G,u⟩:=List.mem_filter.1 hx;obtain ⟨C,o⟩:=List.mem_filter.1 hy;simp only [Bool.and_eq_true,decide_eq_true_eq]at u o;exact Jgs m h (by rw [u.1,o.1]) (hl x G) (hl y C)
theorem Qph(h:l.Pairwise λp q=>cmpV p.1 q.1<0): Jjs d (Vc d l):=by
 cases d with
 | false=>exact h.imp λo=>by simp only [neg];rw [if_neg (by simp)];exact o
 | true=>
  simp only [Vc,if_true,Jjs];rw [List.pairwise_reverse];refine h.imp fun {p q} o=>?_
  have:=cmp_V.anti p.1 q.1;simp only [neg];rw [if_pos trivial];omega
theorem Qjw: p∈Vc d l↔p∈l:=by cases d<;>simp [Vc]
theorem Jys(d:Bool)(l:List (V×Nat)): tot (Vc d l)=tot l:=by
 cases d with
 | false=>rfl
 | true=>
  simp only [Vc,if_true];induction l with
  | nil=>rfl
  | cons p l ih=>rw [List.reverse_cons,Jzj,ih,tot,tot,tot];omega
end Pl
open Go.RowKit Pl Go.Wk
attribute [local irreducible] WC WL QX WD WDB WP WN
variable {c:JC}{l:List Row}{Y:List Row->World->Prop}{L e p:Nat->Nat}{f h:Nat->Nat->Nat}{x z:Row}{w:World}
structure Pth(c:JC)(v:Nat)(z:Row)(p e:Nat->Nat): Prop where
 path:∀ i,i<c.m->Yd (c.F.rs i) (lv (c.vars i) v) (p i)=(pmR (c.vars i) z).take (lv (c.vars i) v)
 rng:∀ i,i<c.m->0<lv (c.vars i) v->p i<e i/\e i<=(pfx (c.F.rs i) (lv (c.vars i) v)).length
def Qwc(c:JC)(Y:List Row->World->Prop)(v:Nat)(z:Row)(p e:Nat->Nat)(f h:Nat->Nat->Nat)(l:List Row)(w:World)(u:Value)(w':World): Prop :=
 u=.bool true/\GrN c.N w w'/\∃ z' f' h' l',Cfg c Y w' z' (λi=>lv (c.vars i) v) p e f' h' l'/\z'.take v=z.take v/\(∀ i,i<c.m->∀ k,k<lv (c.vars i) v->f' i k=f i k/\h' i k=h i k)/\Lt [] l'/\∀ x,x∈l'↔x∈l∨(c.Ans x/\x.take v=z.take v)
theorem Cfg.rowV(H:Cfg c Y w z L p e f h l)(hok:JOk c): RowV w c.rowv z:=by
 have o:=H.row;have u:=hok.n32;refine ⟨c.Ra,c.n,by rw [H.zl];rfl,by rw [H.zl];exact Nat.le_refl _,by rw [H.zl];omega,?_⟩;rw [Zt,H.zl]at o;rw [RdR,H.zl];exact Rd.own o
theorem Pth.ans(h:Pth c c.n z p e)(hok:JOk c)(hz:z.length=c.n): c.Ans z:=by
 refine ⟨hz,λi hi=>?_⟩;have O:=h.path i hi;have J:=Jsw (hok.lt i hi);rw [J,List.take_of_length_le (by rw [Qm];exact Nat.le_refl _)]at O;rw [<-O];have G:=hok.d i hi;by_cases h0:(c.vars i).length=0
 .rw [Yd,if_pos h0];obtain ⟨r,o⟩:=List.exists_mem_of_ne_nil _ (hok.ne i hi);have:=hok.len i hi r o;rw [G,h0]at this;rw [List.eq_nil_of_length_eq_zero this]at o;exact o
 .rw [Yd,if_neg h0];have C:=h.rng i hi om;rw [J]at C;have u:=Qfj (hok.srt i hi) (hok.len i hi);rw [G]at u;rw [u]at C ⊢;exact getD_mem' [] _ om
theorem Qyv{n:Nat}(h1:x.length=n)(h2:z.length=n)(h:x.take n=z.take n): x=z:=by
 rwa [List.take_of_length_le om,List.take_of_length_le om]at h
theorem Qnn{NY:Nat->Prop}(hok:JOk c)(hY:YC c Y NY)(hcap:∀ l:List Row,Lt [] l->(∀ x∈l,c.Ans x)->l.length<=65536)(H:Cfg c Y w z (λi=>lv (c.vars i) c.n) p e f h l)(hP:Pth c c.n z p e)(hl:Lt [] l)(hla:∀ x∈l,c.Ans x)(hls:∀ x∈l,∀ z',c.Ans z'->z'.take c.n=z.take c.n->Jw x z' []<0):
  Ret Tryz.prog 205 [.pointer (some ⟨c.J,0,none⟩),.int .i64 (c.n:Int)] w (Qwc c Y c.n z p e f h l w):=by
 have o:=hP.ans hok H.zl;obtain ⟨st,hJ⟩:=H.jb;have aa:=hok.n32;obtain ⟨ab,first,ac,a1,U⟩:=hY.call;have a2:c.rowv=.slice c.Ra c.n c.n:=rfl;rw [a2,a1]at hJ;refine Jz Tryz.func205 Tryz.ntmps205 rfl kr rfl ?_;refine ρ ?_;refine ld (hJ.at (i:=0) rfl) ?_;refine ρ ?_;refine ct ?_ ?_
 .exact Qzm rfl
 refine ρ ?_;refine ld (hJ.at (i:=2) rfl) ?_;refine ρ ?_;refine sto (p:=⟨c.J,2,none⟩) (hJ.cell 2) (hJ.frozen _) ?_;have a8:=hJ.set 2 (.int .i64 (IntKind.i64.wrap (st+1)));have a6:GrN (λk=>k=c.J) w (w.setCell ⟨c.J,2,none⟩ (.int .i64 (IntKind.i64.wrap (st+1)))):=GrN.set _ rfl;have O:GrN c.NI w (w.setCell ⟨c.J,2,none⟩ (.int .i64 (IntKind.i64.wrap (st+1)))):=GrN.set _ (.inl rfl);refine ρ ?_;generalize w.setCell ⟨c.J,2,none⟩ (.int .i64 (IntKind.i64.wrap (st+1)))=w2 at *
 have H2:Cfg c Y w2 z (λi=>lv (c.vars i) c.n) p e f h l:=by
  refine ⟨H.env.gr (O.mono λk _ hk=>hok.sub k hk),λi hi=>?_,Jr H.row a6 (λg eg=>H.rowJ eg),H.zl,⟨_,by rw [a2,a1];exact a8⟩,hY.keep _ _ _ H.y O⟩;obtain ⟨st,Z⟩:=H.its i hi;exact ⟨st,Jc Z a6 (hok.gj i hi)⟩
 refine drN (λ_=>False) 10 [(0,0),(0,1),(0,2),(0,3),(0,4),(0,5),(0,6),(0,7),(2,8),(2,9)] kr ?_;have G:Ext w2 w2.drew:=(Ext.refl w2).drew;have a7:=a8.ext G;have H3:=H2.ext hY G;refine ρn ?_;refine nld (Jm (a7.at (i:=3) rfl) (λe=>e)) ?_;refine ρn ?_;refine nld (Jm (a7.at (i:=0) rfl) (λe=>e)) ?_;refine ρn ?_;refine Xd ?_;have a3:Lt [] (l++[z]):=by
  refine List.pairwise_append.2 ⟨hl,List.pairwise_singleton _ _,λx hx y hy=>?_⟩;rw [List.mem_singleton.1 hy];exact hls x hx z o rfl
 have a4:l.length<65536:=by
  have:=hcap (l++[z]) a3 (λx hx=>by
   rcases List.mem_append.1 hx with h'|h'
   .exact hla x h'
   .rw [List.mem_singleton.1 h'];exact o)
  rw [List.length_append]at this;simp at this;omega
 refine clv (U l _ c.rowv z H3.y (H3.rowV hok) a4) ?_;rintro u w4 ⟨rfl,a9,C⟩;refine ρ ?_;refine Gw ?_;refine Xd ?_;refine ρ ?_;have a5:GrN c.N w w4:=((O.mono λk _ hk=>hok.sub k hk).trans (GrN.ext G)).trans (C.mono λk _ hk=>hY.sub k hk);refine Jj ⟨rfl,a5,z,f,h,l++[z],⟨H.env.gr a5,λi hi=>?_,Jr H3.row C (λg eg hn=>hY.off g hn (.inr (.inr eg))),H.zl,?_,a9⟩,rfl,λi hi k hk=>⟨rfl,rfl⟩,a3,λx=>?_⟩
 .obtain ⟨st,Z⟩:=H3.its i hi;exact ⟨st,Jc Z C (λhn=>hY.off _ hn (.inr (.inl ⟨i,hi,rfl⟩)))⟩
 .obtain ⟨st,Z⟩:=H3.jb;exact ⟨st,Jc Z C (λhn=>hY.off _ hn (.inl rfl))⟩
 .rw [List.mem_append,List.mem_singleton];constructor
  .rintro (h'|rfl)
   .exact .inl h'
   .exact .inr ⟨o,rfl⟩
  .rintro (h'|⟨Z,h2⟩)
   .exact .inl h'
   .exact .inr (Qyv Z.1 H.zl h2)
open Go.RowKit Pl Go.Wk
variable {a i:Nat}{e e1 p p1:Nat->Nat}{y z z2:Row}
structure LS where
 L: Nat->Nat
 p:Nat->Nat
 e:Nat->Nat
 f:Nat->Nat->Nat
 h:Nat->Nat->Nat
def LS.upd(S:LS)(i L p e:Nat)(f h:Nat->Nat): LS:=⟨Wk.upd S.L i L,Wk.upd S.p i p,Wk.upd S.e i e,Wk.upd S.f i f,Wk.upd S.h i h⟩
theorem Cfg.congr{c:JC}{Y:List Row->World->Prop}{w:World}{L L' p' e':Nat->Nat}{f h f' h':Nat->Nat->Nat}{l:List Row}(H:Cfg c Y w z L p e f h l)(h1:∀ i,i<c.m->L' i=L i/\p' i=p i/\e' i=e i/\f' i=f i/\h' i=h i): Cfg c Y w z L' p' e' f' h' l :=
 ⟨H.env,λi hi=>by obtain ⟨J,G,C,u,o⟩:=h1 i hi;rw [J,G,C,u,o];exact H.its i hi,H.row,H.zl,H.jb,H.y⟩
def JC.vl(c:JC)(v i a:Nat): V:=(lvl (c.F.rs i) (lv (c.vars i) v)).getD a V0
structure Sib(c:JC)(v:Nat)(z:Row)(lo hi:Nat->Nat): Prop where
 lt:∀ i∈c.I v,lo i<hi i/\hi i<=(pfx (c.F.rs i) (lv (c.vars i) v+1)).length
 ch:∀ i∈c.I v,∀ a,a<(pfx (c.F.rs i) (lv (c.vars i) v+1)).length->(((pfx (c.F.rs i) (lv (c.vars i) v+1)).getD a []).take (lv (c.vars i) v)=(pmR (c.vars i) z).take (lv (c.vars i) v)↔lo i<=a/\a<hi i)
section
variable {c:JC} {v:Nat} {z:Row} {lo hi:Nat->Nat}
theorem JOk.lvd(hok:JOk c)(hi:i∈c.I v): lv (c.vars i) v+1<=c.F.d i:=by
 obtain ⟨o,u⟩:=JC.mem_I.1 hi;rw [hok.d i o];exact (Vt (hok.asc i o) u).2.1
theorem Sib.node(hok:JOk c)(hS:Sib c v z lo hi)(him:i∈c.I v)(h1:lo i<=a)(h2:a<hi i): (pfx (c.F.rs i) (lv (c.vars i) v+1)).getD a []=(pmR (c.vars i) z).take (lv (c.vars i) v)++[c.vl v i a]:=by
 obtain ⟨o,G⟩:=JC.mem_I.1 him;have C:=hS.lt i him;have u:a<(pfx (c.F.rs i) (lv (c.vars i) v+1)).length:=om
 have O:=(hS.ch i him a u).2 ⟨h1,h2⟩;have J:=Qfh (Gv (hok.srt i o)) (hok.len i o) (hok.lvd him) (getD_mem' [] _ u);rw [Qyt J O,JC.vl,Qhq u]
theorem Sib.srt(hok:JOk c)(hS:Sib c v z lo hi){i a b:Nat}(him:i∈c.I v)(h1:lo i<=a)(h2:a<b)(h3:b<hi i): cmpV (c.vl v i a) (c.vl v i b)<0:=by
 obtain ⟨o,G⟩:=JC.mem_I.1 him;have C:=hS.lt i him;have u:=(Jzv (Gv (hok.srt i o)) (lv (c.vars i) v+1)).1.at h2 om;rw [hS.node hok him h1 om,hS.node hok him om h3]at u;have key:∀ (y:Row) (a b:V),Jw (y++[a]) (y++[b]) []<0->cmpV a b<0:=λy a b=>by
  induction y with
  | nil=>
   intro h;simp only [List.nil_append,Jw]at h;by_cases e:cmpV a b=0
   .rw [if_pos e]at h;omega
   .rw [if_neg e]at h;exact h
  | cons x y ih=>
   intro h;simp only [List.cons_append,Jw,Zh,if_true,List.drop_nil]at h;exact ih h
 exact key _ _ _ u
theorem Sib.ans(hok:JOk c)(hS:Sib c v z lo hi)(hy:c.Ans y)(ht:y.take v=z.take v)(him:i∈c.I v): ∃ a,lo i<=a/\a<hi i/\c.vl v i a=y.getD v V0:=by
 obtain ⟨o,G⟩:=JC.mem_I.1 him;have Z:=(Jqr (Gv (hok.srt i o)) (l:=lv (c.vars i) v+1)).2 ⟨_,hy.2 i o,rfl⟩;obtain ⟨a,O,U⟩:=List.getElem_of_mem Z;rw [Jrl (hok.asc i o) G,Jdk (hok.asc i o) ht]at U;have u:(pfx (c.F.rs i) (lv (c.vars i) v+1)).getD a []=(pmR (c.vars i) z).take (lv (c.vars i) v)++[y.getD v V0]:=by rw [Jp [] _ O];exact U
 have hl:((pmR (c.vars i) z).take (lv (c.vars i) v)).length=lv (c.vars i) v:=by rw [List.length_take,Qm];have:=Jst (c.vars i) v;omega
 have C:=(hS.ch i him a O).1 (by rw [u,List.take_append_of_le_length om,List.take_of_length_le om]);refine ⟨a,C.1,C.2,?_⟩;have:=hS.node hok him C.1 C.2;rw [u]at this;have J:=List.append_cancel_left this;injection J with J
 exact J.symm
theorem Pth.step(hok:JOk c)(hP:Pth c v z p e)(hS:Sib c v z lo hi)(hv:v<z.length){x:V}(h1:∀ i∈c.I v,lo i<=p1 i/\p1 i<hi i/\c.vl v i (p1 i)=x)(hz2:z2.take v=z.take v)(hz3:z2.getD v V0=x)(h2:∀ i,i<c.m->i ∉ c.I v->p1 i=p i/\e1 i=e i)(h3:∀ i∈c.I v,e1 i=hi i): Pth c (v+1) z2 p1 e1:=by
 refine ⟨λi o=>?_,λi o h0=>?_⟩
 .by_cases him:i∈c.I v
  .obtain ⟨u,C⟩:=JC.mem_I.1 him;have J:=h1 i him;rw [(Vt (hok.asc i u) C).1,Jrl (hok.asc i u) C,Jdk (hok.asc i u) hz2,hz3,Yd,if_neg om,hS.node hok him J.1 J.2.1,J.2.2]
  .have G:v ∉ c.vars i:=λO=>him (JC.mem_I.2 ⟨o,O⟩);rw [Jjg G,(h2 i o him).1,hP.path i o,Jdk (hok.asc i o) hz2]
 .by_cases him:i∈c.I v
  .obtain ⟨u,C⟩:=JC.mem_I.1 him;have J:=h1 i him;rw [(Vt (hok.asc i u) C).1,h3 i him];exact ⟨J.2.1,(hS.lt i him).2⟩
  .have G:v ∉ c.vars i:=λO=>him (JC.mem_I.2 ⟨o,O⟩);rw [Jjg G]at h0 ⊢;rw [(h2 i o him).1,(h2 i o him).2];exact hP.rng i o h0
end
open Go.RowKit Pl Go.Wk
structure ES where
 t: Bool
 z:Row
 p:Nat->Nat
 f:Nat->Nat->Nat
 h:Nat->Nat->Nat
 l:List Row
theorem Jqg{α:Type}(f:Nat->α)(i:Nat): upd f i (f i)=f:=by
 funext k;unfold upd;split
 .rename_i e;rw [e]
 .rfl
set_option maxRecDepth 100000 in
set_option maxHeartbeats 2000000 in
theorem Qnp{c : JC}{Y : List Row → World → Prop}{NY : Nat → Prop}(hok : JOk c)(hY : YC c Y NY)(hcap : ∀ l : List Row, Lt [] l → (∀ x ∈ l, c.Ans x) → l.length ≤ 65536): ∀ (k v : Nat) (z : Row) (p e : Nat → Nat) (f h : Nat → Nat → Nat) (l : List Row) (w : World), v + k = c.n →
    Cfg c Y w z (fun i => lv (c.vars i) v) p e f h l → Pth c v z p e → Lt [] l → (∀ x ∈ l, c.Ans x) → (∀ x ∈ l, ∀ z', c.Ans z' → z'.take v = z.take v → Jw x z' [] < 0) →
    Ret Tryz.prog 205 [.pointer (some ⟨c.J, 0, none⟩), .int .i64 (v : Int)] w (Qwc c Y v z p e f h l w) := by
  intro k
  induction k with
  | zero =>
    intro v z p e f h l w hvk H hP hl hla hls
    have : v = c.n := by omega
    subst this
    exact Qnn hok hY hcap H hP hl hla hls
  | succ k ih =>
  intro v z p e f h l w hvk H hP hl hla hls
  have hv : v < c.n := by omega
  have hvz : v < z.length := by rw [H.zl]; exact hv
  have hn32 := hok.n32
  obtain ⟨B, cc, hja, hat⟩ := H.env.at_
  obtain ⟨B2, cc2, hvat, hlist⟩ := H.env.lists v hv
  have hI32 : (c.I v).length ≤ 32 := nL (c.len_I v) hok.m32
  have hI0 : 0 < (c.I v).length := by
    obtain ⟨i, h1, h2⟩ := hok.cov v hv
    exact List.length_pos_of_mem (JC.mem_I.2 ⟨h1, h2⟩)
  have hI0m : (c.I v).getD 0 0 ∈ c.I v := getD_mem' 0 _ hI0
  have hrv : c.rowv = .slice c.Ra c.n c.n := rfl
  have hNIN : ∀ k, c.NI k → c.N k := hok.sub
  refine Jz Tryz.func205 Tryz.ntmps205 rfl kr rfl ?_
  refine ρ ?_
  obtain ⟨st, hJ⟩ := H.jb
  rw [hrv, hja] at hJ
  refine ld (hJ.at (i := 0) rfl) ?_
  refine ρ ?_
  refine cf ?_ ?_
  . exact Jzb om
  refine ρ ?_
  refine ld (hJ.at (i := 1) rfl) ?_
  refine ρ ?_
  refine ix v hat.here hv ?_
  refine ρ ?_
  have hcv : w.cell? (adr B v) = some (.slice B2 (c.I v).length cc2) := hat.here.cell (by simp [hv, hvat])
  refine ld hcv ?_
  clear hJ hcv
  refine ρ ?_
  refine Ja (fun (q : Nat) (S : LS) => [(0, .pointer (some ⟨c.J, 0, none⟩)), (1, .int .i64 (v : Int)), (5, .slice B2 (c.I v).length cc2), (42, .slice B2 (c.I v).length cc2), (43, .int .i64 ((c.I v).length : Int)), (44, .int .i64 (q : Int))])
    (fun q S w' => q ≤ (c.I v).length ∧ GrN c.N w w' ∧ Cfg c Y w' z S.L S.p S.e S.f S.h l ∧
      (∀ i ∈ (c.I v).take q, S.L i = lv (c.vars i) v + 1 ∧ S.p i < S.e i ∧ S.e i ≤ (pfx (c.F.rs i) (lv (c.vars i) v + 1)).length ∧ (∀ a, a < (pfx (c.F.rs i) (lv (c.vars i) v + 1)).length → (((pfx (c.F.rs i) (lv (c.vars i) v + 1)).getD a []).take (lv (c.vars i) v) = (pmR (c.vars i) z).take (lv (c.vars i) v) ↔ S.p i ≤ a ∧ a < S.e i)) ∧ S.f i = upd (f i) (lv (c.vars i) v) (p i) ∧ S.h i = upd (h i) (lv (c.vars i) v) (e i)) ∧
      (∀ i, i < c.m → i ∉ (c.I v).take q → S.L i = lv (c.vars i) v ∧ S.p i = p i ∧ S.e i = e i ∧ S.f i = f i ∧ S.h i = h i)) (fun q _ => (c.I v).length - q) 0 ⟨fun i => lv (c.vars i) v, p, e, f, h⟩ sB
    ⟨Nat.zero_le _, GrN.refl _ _, H, fun i hi => by simp at hi, fun i _ _ => ⟨rfl, rfl, rfl, rfl, rfl⟩⟩ ?_
  rintro q S w1 ⟨hq, hg1, H1, ha1, hb1⟩
  refine ρ ?_
  refine ci (fun h1 => ?_) (fun h1 => ?_)
  . have lq : q < (c.I v).length := by have := oT h1; omega
    clear h1
    have hR1 := hlist w1 hg1
    refine ρ ?_
    refine ix q hR1 lq ?_
    refine ρ ?_
    refine ld (hR1.cell (Jqn lq)) ?_
    refine ρ ?_
    obtain ⟨i, hi⟩ : ∃ i, i = (c.I v).getD q 0 := ⟨_, rfl⟩
    rw [← hi]
    have him : i ∈ c.I v := by rw [hi]; exact getD_mem' 0 _ lq
    obtain ⟨him1, him2⟩ := JC.mem_I.1 him
    have htk : (c.I v).take (q + 1) = (c.I v).take q ++ [i] := by rw [Qy 0 lq, hi]
    have hnq : i ∉ (c.I v).take q := fun hm => by
      have h1 : ((c.I v).take (q + 1)).Nodup := (c.nodup_I v).sublist (List.take_sublist _ _)
      rw [htk, List.nodup_append] at h1
      exact h1.2.2 _ hm _ (List.mem_singleton.2 rfl) rfl
    obtain ⟨e1, e2, e3, e4, e5⟩ := hb1 i him1 hnq
    obtain ⟨sti, hIi⟩ := H1.its i him1
    rw [e1, e2, e3, e4, e5] at hIi
    have hTi : Off (fun k => k = c.F.G i) w1 (fun u => TriA u (c.F.A i) (c.F.d i) (c.F.rs i)) := (H1.env.tri i him1).mono fun j _ ej => hNIN j (.inr (.inl ⟨i, him1, ej⟩))
    have hbig := hok.big i him1
    refine cl (Qlw hIi hTi (hok.lvd him) (hok.d32 i him1) (hP.rng i him1) (hok.ne i him1) (Gv (hok.srt i him1)) om (hok.len i him1)) ?_
    rintro u w2 ⟨rfl, hg2, lo, hi', h2, h3, h4, hI2⟩
    have H2 := H1.it hok hY him1 hg2 hI2
    refine ρ ?_
    refine Jl (q + 1) (S.upd i (lv (c.vars i) v + 1) lo hi' (upd (f i) (lv (c.vars i) v) (p i)) (upd (h i) (lv (c.vars i) v) (e i))) sO ⟨om, hg1.trans (hg2.mono fun j _ ej => hNIN j (.inr (.inl ⟨i, him1, ej⟩))), H2, fun j hj => ?_, fun j hj hjn => ?_⟩ om
    . rw [htk, List.mem_append, List.mem_singleton] at hj
      by_cases ej : j = i
      . subst ej
        simp only [LS.upd, Jg]
        rw [← hP.path j him1]
        exact ⟨trivial, h2, h3, h4, trivial, trivial⟩
      . simp only [LS.upd, Jy _ _ ej]
        exact ha1 j (hj.resolve_right ej)
    . rw [htk, List.mem_append, List.mem_singleton, not_or] at hjn
      simp only [LS.upd, Jy _ _ hjn.2]
      exact hb1 j hj hjn.1
  have eq : q = (c.I v).length := by have := oF h1; omega
  clear h1
  rw [eq, List.take_of_length_le (Nat.le_refl _)] at ha1 hb1
  have hS : Sib c v z S.p S.e := ⟨fun i hi => ⟨(ha1 i hi).2.1, (ha1 i hi).2.2.1⟩, fun i hi => (ha1 i hi).2.2.2.1⟩
  obtain ⟨lo, hlo⟩ : ∃ lo, lo = S.p := ⟨_, rfl⟩
  have hS' : Sib c v z lo S.e := by rw [hlo]; exact hS
  have hval : ∀ (f' h' : Nat → Nat → Nat), ∀ i ∈ c.I v, ∀ a, c.F.val ⟨S.L, lo, S.e, f', h'⟩ i a = c.vl v i a := fun f' h' i hi a => by
    unfold Fix.val JC.vl; simp only; rw [(ha1 i hi).1, Nat.add_sub_cancel]
  have hOn : ∀ (f' h' : Nat → Nat → Nat), OnS c.F ⟨S.L, lo, S.e, f', h'⟩ (c.I v) := fun f' h' => by
    refine ⟨fun i hi => ?_, fun i hi => ?_, fun i hi a b h1 h2 h3 => ?_, fun i hi j hj e' => hok.inj i j (JC.mem_I.1 hi).1 (JC.mem_I.1 hj).1 e', hI32⟩
    . simp only; rw [(ha1 i hi).1]; exact ⟨om, hok.lvd hi, hok.d32 i (JC.mem_I.1 hi).1⟩
    . simp only; rw [(ha1 i hi).1, Nat.add_sub_cancel, Jxd]
      have h1 := (ha1 i hi).2.2.1
      have h2 := Jkw ((c.F.rs i).map (List.take (lv (c.vars i) v + 1)))
      rw [List.length_map] at h2
      have h3 : (pfx (c.F.rs i) (lv (c.vars i) v + 1)).length ≤ (c.F.rs i).length := h2
      have h4 := hok.big i (JC.mem_I.1 hi).1
      exact ⟨h1, by omega⟩
    . rw [hval f' h' i hi, hval f' h' i hi]; exact hS'.srt hok hi h1 h2 h3
  have hNGN : ∀ k, NG c.F (c.I v) c.J k → c.N k := fun k hk => by
    rcases hk with hk | ⟨i, hi, hk⟩
    . exact hNIN k (.inl hk)
    . exact hNIN k (.inr (.inl ⟨i, (JC.mem_I.1 hi).1, hk⟩))
  have hNGI : ∀ k, NG c.F (c.I v) c.J k → c.NI k := fun k hk => by
    rcases hk with hk | ⟨i, hi, hk⟩
    . exact .inl hk
    . exact .inr (.inl ⟨i, (JC.mem_I.1 hi).1, hk⟩)
  have hSL : ∀ i, i < c.m → S.L i = lv (c.vars i) (v + 1) := fun i hi => by
    by_cases him : i ∈ c.I v
    . rw [(ha1 i him).1, (Vt (hok.asc i hi) (JC.mem_I.1 him).2).1]
    . rw [(hb1 i hi him).1, Jjg (fun h' => him (JC.mem_I.2 ⟨hi, h'⟩))]
  have he6 : ∀ i ∈ c.I v, S.e i ≤ 1000000 := fun i hi => ((hOn S.f S.h).rng i hi).2
  have hgj : ∀ i ∈ c.I v, c.F.G i ≠ c.J := fun i hi => hok.gj i (JC.mem_I.1 hi).1
  have hlow : ∀ y, c.Ans y → y.take v = z.take v → ∀ i ∈ c.I v, ∃ a, lo i ≤ a ∧ a < S.e i ∧ c.vl v i a = y.getD v V0 := fun y hy ht i hi => hS'.ans hok hy ht hi
  have hcmn : ∀ (f' h' : Nat → Nat → Nat) y, c.Ans y → y.take v = z.take v → Cmn c.F ⟨S.L, lo, S.e, f', h'⟩ (c.I v) (y.getD v V0) := fun f' h' y hy ht i hi => by
    obtain ⟨a, h1, h2, h3⟩ := hlow y hy ht i hi
    exact ⟨a, h1, h2, by rw [hval f' h' i hi]; exact h3⟩
  refine ρ ?_
  refine cl (Jsp (F := c.F) (V' := ⟨S.L, lo, S.e, S.f, S.h⟩) (I := c.I v) (J := c.J) (p := lo) (jr := c.rowv) (ja := c.ja) (yv := c.yv) (B := B2) (c := cc2) (hOn _ _) hI0 (c.nodup_I v) (fun i hi => by rw [hlo]; exact H1.its i (JC.mem_I.1 hi).1) H1.jb hgj (fun i hi => (H1.env.tri i (JC.mem_I.1 hi).1).mono fun k _ hk => hNGN k hk) ((hlist.gr hg1).mono fun k _ hk => hNGN k hk)
    (fun i hi => ⟨Nat.le_refl _, (hS'.lt i hi).1⟩) (fun i hi a h1 h2 => absurd h2 (by simp only at h1; omega))) ?_
  rintro u w2 ⟨hg2, hJ2, p2, t, rfl, hIts2, hp2, ht, hf⟩
  have H2 := H1.mt hok hY hg2 hJ2 (p' := p2) hIts2
  have hv0 : ∀ f' h', c.F.val ⟨S.L, lo, S.e, f', h'⟩ ((c.I v).getD 0 0) (lo ((c.I v).getD 0 0)) = c.vl v ((c.I v).getD 0 0) (lo ((c.I v).getD 0 0)) := fun f' h' => hval f' h' _ hI0m _
  have hlo0 : ∀ y, c.Ans y → y.take v = z.take v → cmpV (c.vl v ((c.I v).getD 0 0) (lo ((c.I v).getD 0 0))) (y.getD v V0) ≤ 0 := fun y hy ht => by
    obtain ⟨a, h1, h2, h3⟩ := hlow y hy ht _ hI0m
    rw [← h3]
    by_cases e : a = lo ((c.I v).getD 0 0)
    . rw [e, Zh]; omega
    . have := hS'.srt hok hI0m (Nat.le_refl _) (show lo ((c.I v).getD 0 0) < a by omega) h2; omega
  refine ρ ?_
  refine Qd (fun (s : ES) => [(0, .pointer (some ⟨c.J, 0, none⟩)), (1, .int .i64 (v : Int)), (5, .slice B2 (c.I v).length cc2), (8, .bool true), (9, .bool s.t)])
    (fun s w' => GrN c.N w w' ∧ Cfg c Y w' s.z S.L s.p S.e s.f s.h s.l ∧ s.z.take v = z.take v ∧ (∀ i, i < c.m → i ∉ c.I v → s.p i = p i) ∧ (∀ i, i < c.m → ∀ k, k < S.L i → s.f i k = S.f i k ∧ s.h i k = S.h i k) ∧ Lt [] s.l ∧ (∀ x ∈ s.l, c.Ans x) ∧
      (s.t = true → ∃ x, (∀ i ∈ c.I v, lo i ≤ s.p i ∧ s.p i < S.e i ∧ c.vl v i (s.p i) = x) ∧ ∀ y, y ∈ s.l ↔ y ∈ l ∨ (c.Ans y ∧ y.take v = z.take v ∧ cmpV (y.getD v V0) x < 0)) ∧
      (s.t = false → ∀ y, y ∈ s.l ↔ y ∈ l ∨ (c.Ans y ∧ y.take v = z.take v))) (fun s => if s.t then S.e ((c.I v).getD 0 0) - s.p ((c.I v).getD 0 0) else 0) ⟨t, z, fun i => if i ∈ c.I v then p2 i else S.p i, S.f, S.h, l⟩ sB
    ⟨hg1.trans (hg2.mono fun k _ hk => hNGN k hk), H2, rfl, fun i hi hin => ?_, fun i hi k hk => ⟨rfl, rfl⟩, hl, hla, fun e => ?_, fun e y => ?_⟩ ?_
  . simp only [if_neg hin]; exact (hb1 i hi hin).2.1
  . obtain ⟨x, hx1, hx2, hx3⟩ := ht e
    refine ⟨x, fun i hi => ?_, fun y => ⟨.inl, fun hy => ?_⟩⟩
    . simp only [if_pos hi]
      refine ⟨(hp2 i hi).1, (hx1 i hi).1, ?_⟩
      rw [← hval S.f S.h i hi]; exact (hx1 i hi).2
    . rcases hy with hy | ⟨h1, h2, h3⟩
      . exact hy
      . exfalso
        have h4 := hx3 _ (hcmn S.f S.h y h1 h2) (by rw [hv0]; exact hlo0 y h1 h2)
        have := cmp_V.anti x (y.getD v V0)
        omega
  . refine ⟨.inl, fun hy => ?_⟩
    rcases hy with hy | ⟨h1, h2⟩
    . exact hy
    . exact absurd (show cmpV _ _ ≤ 0 by rw [hv0]; exact hlo0 y h1 h2) (hf e _ (hcmn S.f S.h y h1 h2))
  clear hIts2 hp2 ht hf H2 hJ2 hg2 H1 hg1
  rintro s w2 ⟨hg2, H2, hz2, hpn, hfh, hls2, hla2, htr, hfa⟩
  refine ρ ?_
  refine ci (fun h1 => ?_) (fun h1 => ?_)
  . obtain ⟨x, hx1, hx2⟩ := htr h1
    have hx0 := hx1 _ hI0m
    have hx01 := hx0.1
    have hx02 := hx0.2.1
    obtain ⟨stj, hJ2⟩ := H2.jb
    rw [hrv] at hJ2
    refine ρ ?_
    refine drN (fun k => c.rowv.ownBlock = some k) 14 [(0, 0), (0, 1), (0, 2), (0, 3), (0, 4), (0, 5), (0, 6), (0, 7), (1, 8), (0, 9), (0, 10), (0, 11), (0, 12), (1, 13)] kr ?_
    have hxd : Ext w2 w2.drew := (Ext.refl w2).drew
    have hJ3 := hJ2.ext hxd
    have H3 := H2.ext hY hxd
    have hB3 := (hlist.gr hg2).ext hxd
    obtain ⟨st0, hI3⟩ := H3.its _ (JC.mem_I.1 hI0m).1
    refine ρn ?_
    refine nld (Jm (hJ3.at (i := 0) rfl) (fun e => H2.rowJ e rfl)) ?_
    refine ρn ?_
    refine nix 0 hB3.here hI0 ?_
    refine ρn ?_
    refine nld (fun w' hg => (hB3 w' (hg.mono fun k _ ek => hNIN k (.inr (.inr ek)))).cell (Jqn hI0)) ?_
    refine ρn ?_
    refine nop ?_
    refine cl (Jfw hI3 (H3.env.tri _ (JC.mem_I.1 hI0m).1).here (by rw [(ha1 _ hI0m).1]; exact hok.lvd hI0m) (hok.d32 _ (JC.mem_I.1 hI0m).1) (fun _ => ((hOn s.f s.h).rng _ hI0m).1)) ?_
    rintro u w4 ⟨hx4, vv, rfl, hvv⟩
    have hvx : vv = x := by
      rw [hvv ⟨by rw [(ha1 _ hI0m).1]; omega, hx0.2.1⟩, ← hx0.2.2, JC.vl, (ha1 _ hI0m).1, Nat.add_sub_cancel]
    subst hvx
    refine ρ ?_
    refine Js (GrN.ext hx4) ?_
    have H4 := H3.ext hY hx4
    have hrow4 : w4.ownsRow c.base 47 3 (.slice c.Ra c.n c.n) c.n (Jd s.z) := by
      have := H4.row
      rw [Zt, H4.zl, hrv] at this; exact this
    refine ρn ?_
    refine Vr 3 v (Rd.own hrow4) hv ?_
    refine ρn ?_
    refine nop ?_
    refine stoE (cs := vv.cells) hrow4 hv ?_ (V.one _)
    intro w5 ho5 hg5
    refine ω5 ?_
    refine Js (GrN.by hg5 fun k ek => ek) ?_
    refine ρn ?_
    have hvz2 : v < s.z.length := by rw [H2.zl]; exact hv
    rw [← Jdb s.z v vv hvz2] at ho5
    have hgo5 : w4.grownBy w5 c.rowv.ownBlock := hg5
    have hg5N : GrN c.NI w4 w5 := GrN.by hgo5 fun k ek => .inr (.inr ek)
    obtain ⟨z2, ez2⟩ : ∃ z2, z2 = s.z.set v vv := ⟨_, rfl⟩
    rw [← ez2] at ho5
    have hz2l : z2.length = c.n := by rw [ez2, List.length_set]; exact H2.zl
    have hz2t : z2.take v = z.take v := by rw [ez2, Qbt]; exact hz2
    have hz2v : z2.getD v V0 = vv := by rw [ez2]; exact Qbw vv hvz2
    have H5 : Cfg c Y w5 z2 S.L s.p S.e s.f s.h s.l := by
      refine ⟨H4.env.gr (hg5N.mono fun k _ hk => hNIN k hk), fun i hi => ?_, by rw [Zt, hz2l, hrv]; exact ho5, hz2l, ?_, hY.keep _ _ _ H4.y hg5N⟩
      . obtain ⟨st, h1⟩ := H4.its i hi
        exact ⟨st, h1.grown hgo5 (fun e => H4.rowG hi e.symm rfl)⟩
      . obtain ⟨st, h1⟩ := H4.jb
        exact ⟨st, h1.grown hgo5 (fun e => H4.rowJ e.symm rfl)⟩
    have hg25 : GrN c.N w2 w5 := (GrN.ext (hxd.trans hx4)).trans (hg5N.mono fun k _ hk => hNIN k hk)
    refine ρ ?_
    have hP2 : Pth c (v + 1) z2 s.p S.e := Pth.step hok hP hS' hvz hx1 hz2t hz2v (fun i hi hin => ⟨hpn i hi hin, (hb1 i hi hin).2.2.1⟩) (fun i _ => rfl)
    have htk : ∀ y : Row, c.Ans y → (y.take (v + 1) = z2.take (v + 1) ↔ y.take v = z.take v ∧ y.getD v V0 = vv) := fun y hy => by
      have hyl : v < y.length := by rw [hy.1]; exact hv
      have hz2l' : v < z2.length := by rw [hz2l]; exact hv
      constructor
      . intro h
        have h5 := Jmv h (Nat.le_succ v)
        refine ⟨h5.trans hz2t, ?_⟩
        rw [← hz2v]; exact Jmw h (Nat.lt_succ_self v)
      . rintro ⟨h5, h6⟩
        exact Qys (h5.trans hz2t.symm) hyl hz2l' (h6.trans hz2v.symm)
    refine cl (ih (v + 1) z2 s.p S.e s.f s.h s.l w5 om (H5.congr fun i hi => ⟨(hSL i hi).symm, rfl, rfl, rfl, rfl⟩) hP2 hls2 hla2 (fun y hy z' hz' ht => ?_)) ?_
    . obtain ⟨h5, h6⟩ := (htk z' hz').1 ht
      rcases (hx2 y).1 hy with h7 | ⟨h7, h8, h9⟩
      . exact hls y h7 z' hz' h5
      . exact Qxb v y z' (h8.trans h5.symm) (by rw [h7.1]; exact hv) (by rw [hz'.1]; exact hv) (by rw [h6]; exact h9)
    rintro u w6 ⟨rfl, hg6, z6, f6, h6, l6, H6, hz6, hfh6, hls6, hl6⟩
    have H6' : Cfg c Y w6 z6 S.L s.p S.e f6 h6 l6 := H6.congr fun i hi => ⟨hSL i hi, rfl, rfl, rfl, rfl⟩
    have hz6t : z6.take v = z.take v := (Jmv hz6 (Nat.le_succ v)).trans hz2t
    have hla6 : ∀ y ∈ l6, c.Ans y := fun y hy => by
      rcases (hl6 y).1 hy with h7 | h7
      . exact hla2 y h7
      . exact h7.1
    have hl6' : ∀ y, y ∈ l6 ↔ y ∈ l ∨ (c.Ans y ∧ y.take v = z.take v ∧ cmpV (y.getD v V0) vv ≤ 0) := fun y => by
      rw [hl6, hx2]
      constructor
      . rintro ((h7 | ⟨h7, h8, h9⟩) | ⟨h7, h8⟩)
        . exact .inl h7
        . exact .inr ⟨h7, h8, by omega⟩
        . obtain ⟨h9, h10⟩ := (htk y h7).1 h8
          exact .inr ⟨h7, h9, by rw [h10, Zh]; omega⟩
      . rintro (h7 | ⟨h7, h8, h9⟩)
        . exact .inl (.inl h7)
        . by_cases e : cmpV (y.getD v V0) vv = 0
          . exact .inr ⟨h7, (htk y h7).2 ⟨h8, cmp_V.zero _ _ e⟩⟩
          . exact .inl (.inr ⟨h7, h8, by omega⟩)
    have hfh7 : ∀ i, i < c.m → ∀ k, k < S.L i → f6 i k = S.f i k ∧ h6 i k = S.h i k := fun i hi k hk => by
      have h7 := hfh6 i hi k (by rw [← hSL i hi]; exact hk)
      have h8 := hfh i hi k hk
      exact ⟨h7.1.trans h8.1, h7.2.trans h8.2⟩
    refine ρ ?_
    obtain ⟨st6, hI6⟩ := H6'.its _ (JC.mem_I.1 hI0m).1
    have hB6 := hlist.gr (hg2.trans (hg25.trans hg6))
    refine ix 0 hB6.here hI0 ?_
    refine ρ ?_
    refine ld (hB6.here.cell (Jqn hI0)) ?_
    refine ρ ?_
    refine cl (Qlx hI6 (by rw [(ha1 _ hI0m).1]; omega) hx0.2.1 (he6 _ hI0m)) ?_
    rintro u w7 ⟨rfl, hg7, hI7⟩
    have hg7N : GrN c.N w6 w7 := hg7.mono fun k _ ek => hNIN k (.inr (.inl ⟨_, (JC.mem_I.1 hI0m).1, ek⟩))
    have H7 := H6'.it hok hY (JC.mem_I.1 hI0m).1 hg7 hI7
    have H7' : Cfg c Y w7 z6 S.L (upd s.p ((c.I v).getD 0 0) (s.p ((c.I v).getD 0 0) + 1)) S.e f6 h6 l6 := by
      rw [Jqg, Jqg, Jqg, Jqg] at H7; exact H7
    obtain ⟨p7, ep7⟩ : ∃ p7, p7 = upd s.p ((c.I v).getD 0 0) (s.p ((c.I v).getD 0 0) + 1) := ⟨_, rfl⟩
    rw [← ep7] at H7'
    have p7a : p7 ((c.I v).getD 0 0) = s.p ((c.I v).getD 0 0) + 1 := by rw [ep7, Jg]
    have p7n : ∀ i, i ≠ (c.I v).getD 0 0 → p7 i = s.p i := fun i hi => by rw [ep7, Jy _ _ hi]
    have hgw7 : GrN c.N w w7 := (hg2.trans hg25).trans (hg6.trans hg7N)
    have hafter : ∀ y, c.Ans y → y.take v = z.take v → ¬ cmpV (y.getD v V0) vv ≤ 0 → ∃ a, s.p ((c.I v).getD 0 0) + 1 ≤ a ∧ a < S.e ((c.I v).getD 0 0) ∧ c.vl v ((c.I v).getD 0 0) a = y.getD v V0 := fun y hy ht hgt => by
      obtain ⟨a, h7, h8, h9⟩ := hlow y hy ht _ hI0m
      refine ⟨a, ?_, h8, h9⟩
      rcases Nat.lt_trichotomy a (s.p ((c.I v).getD 0 0)) with h10 | h10 | h10
      . have := hS'.srt hok hI0m h7 h10 hx0.2.1
        rw [hx0.2.2, h9] at this; omega
      . rw [h10, hx0.2.2] at h9
        rw [← h9, Zh] at hgt; omega
      . omega
    refine ρ ?_
    refine ki 59 (fun h5 => ?_) (fun h5 => ?_)
    . have hlt : s.p ((c.I v).getD 0 0) + 1 < S.e ((c.I v).getD 0 0) := oT h5
      clear h5
      have hnx : cmpV vv (c.vl v ((c.I v).getD 0 0) (s.p ((c.I v).getD 0 0) + 1)) < 0 := by
        have := hS'.srt hok hI0m hx0.1 (Nat.lt_succ_self _) hlt
        rw [hx0.2.2] at this; exact this
      have hv7 : c.F.val ⟨S.L, lo, S.e, f6, h6⟩ ((c.I v).getD 0 0) (p7 ((c.I v).getD 0 0)) = c.vl v ((c.I v).getD 0 0) (s.p ((c.I v).getD 0 0) + 1) := by rw [p7a]; exact hval f6 h6 _ hI0m _
      refine ρ ?_
      refine cl (Jsp (F := c.F) (V' := ⟨S.L, lo, S.e, f6, h6⟩) (I := c.I v) (J := c.J) (p := p7) (jr := c.rowv) (ja := c.ja) (yv := c.yv) (B := B2) (c := cc2) (hOn _ _) hI0 (c.nodup_I v) (fun i hi => H7'.its i (JC.mem_I.1 hi).1) H7'.jb hgj (fun i hi => (H7'.env.tri i (JC.mem_I.1 hi).1).mono fun k _ hk => hNGN k hk) ((hlist.gr hgw7).mono fun k _ hk => hNGN k hk)
        (fun i hi => ?_) (fun i hi a h7 h8 => ?_)) ?_
      . have h9 := hx1 i hi
        by_cases e : i = (c.I v).getD 0 0
        . rw [e, p7a]; simp only; omega
        . rw [p7n i e]; simp only; omega
      . rw [hv7, hval f6 h6 i hi]
        have h9 := hx1 i hi
        simp only at h7
        by_cases e : i = (c.I v).getD 0 0
        . rw [e] at h7 h8 ⊢
          rw [p7a] at h8
          exact hS'.srt hok hI0m h7 h8 hlt
        . rw [p7n i e] at h8
          have h10 := hS'.srt hok hi h7 h8 h9.2.1
          rw [h9.2.2] at h10
          exact cmp_V.lt_trans h10 hnx
      rintro u w8 ⟨hg8, hJ8, p8, t8, rfl, hIts8, hp8, ht8, hf8⟩
      have H8 := H7'.mt hok hY hg8 hJ8 (p' := p8) hIts8
      rw [hv7] at ht8 hf8
      refine ρ ?_
      have hmeas : t8 = true → s.p ((c.I v).getD 0 0) < p8 ((c.I v).getD 0 0) ∧ p8 ((c.I v).getD 0 0) < S.e ((c.I v).getD 0 0) := fun e => by
        obtain ⟨x', h7, h8, h9⟩ := ht8 e
        have h10 := h7 _ hI0m
        rw [hval f6 h6 _ hI0m] at h10
        refine ⟨?_, h10.1⟩
        rcases Nat.lt_or_ge (s.p ((c.I v).getD 0 0)) (p8 ((c.I v).getD 0 0)) with h11 | h11
        . exact h11
        . exfalso
          have h12 := (hp8 _ hI0m).1
          simp only at h12
          have h13 : cmpV x' (c.vl v ((c.I v).getD 0 0) (s.p ((c.I v).getD 0 0) + 1)) < 0 := by
            rw [← h10.2]; exact hS'.srt hok hI0m h12 om hlt
          have := cmp_V.anti x' (c.vl v ((c.I v).getD 0 0) (s.p ((c.I v).getD 0 0) + 1))
          omega
      refine Qw ⟨t8, z6, fun i => if i ∈ c.I v then p8 i else p7 i, f6, h6, l6⟩ sB
        ⟨hgw7.trans (hg8.mono fun k _ hk => hNGN k hk), H8, hz6t, fun i hi hin => ?_, hfh7, hls6, hla6, fun e => ?_, fun e y => ?_⟩ ?_
      . simp only [if_neg hin]
        rw [p7n i (fun e => hin (e ▸ hI0m))]; exact hpn i hi hin
      . obtain ⟨x', h7, h8, h9⟩ := ht8 e
        refine ⟨x', fun i hi => ?_, fun y => ?_⟩
        . simp only [if_pos hi]
          refine ⟨(hp8 i hi).1, (h7 i hi).1, ?_⟩
          rw [← hval f6 h6 i hi]; exact (h7 i hi).2
        . rw [hl6']
          have hxx : cmpV vv x' < 0 := cmp_V.lt_le hnx h8
          constructor
          . rintro (h10 | ⟨h10, h11, h12⟩)
            . exact .inl h10
            . exact .inr ⟨h10, h11, cmp_V.le_lt h12 hxx⟩
          . rintro (h10 | ⟨h10, h11, h12⟩)
            . exact .inl h10
            . refine .inr ⟨h10, h11, Classical.byContradiction fun hgt => ?_⟩
              obtain ⟨a, h13, h14, h15⟩ := hafter y h10 h11 hgt
              have h16 : cmpV (c.vl v ((c.I v).getD 0 0) (s.p ((c.I v).getD 0 0) + 1)) (y.getD v V0) ≤ 0 := by
                rw [← h15]
                by_cases e : a = s.p ((c.I v).getD 0 0) + 1
                . rw [e, Zh]; omega
                . have := hS'.srt hok hI0m (show lo ((c.I v).getD 0 0) ≤ s.p ((c.I v).getD 0 0) + 1 by omega) (show s.p ((c.I v).getD 0 0) + 1 < a by omega) h14; omega
              have h17 := h9 _ (hcmn f6 h6 y h10 h11) h16
              have := cmp_V.anti x' (y.getD v V0)
              omega
      . rw [hl6']
        constructor
        . rintro (h10 | ⟨h10, h11, h12⟩)
          . exact .inl h10
          . exact .inr ⟨h10, h11⟩
        . rintro (h10 | ⟨h10, h11⟩)
          . exact .inl h10
          . refine .inr ⟨h10, h11, Classical.byContradiction fun hgt => ?_⟩
            obtain ⟨a, h13, h14, h15⟩ := hafter y h10 h11 hgt
            refine hf8 e _ (hcmn f6 h6 y h10 h11) ?_
            rw [← h15]
            by_cases e : a = s.p ((c.I v).getD 0 0) + 1
            . rw [e, Zh]; omega
            . have := hS'.srt hok hI0m (show lo ((c.I v).getD 0 0) ≤ s.p ((c.I v).getD 0 0) + 1 by omega) (show s.p ((c.I v).getD 0 0) + 1 < a by omega) h14; omega
      . simp only [h1, if_true, if_pos hI0m]
        by_cases e : t8 = true
        . have := hmeas e
          rw [if_pos e]; omega
        . rw [if_neg e]; omega
    . have hge : ¬ s.p ((c.I v).getD 0 0) + 1 < S.e ((c.I v).getD 0 0) := oF h5
      clear h5
      refine ρ ?_
      refine Qw ⟨false, z6, p7, f6, h6, l6⟩ sB
        ⟨hgw7, H7', hz6t, fun i hi hin => ?_, hfh7, hls6, hla6, fun e => (by cases e), fun _ y => ?_⟩ ?_
      . simp only
        rw [p7n i (fun e => hin (e ▸ hI0m))]; exact hpn i hi hin
      . rw [hl6']
        constructor
        . rintro (h10 | ⟨h10, h11, h12⟩)
          . exact .inl h10
          . exact .inr ⟨h10, h11⟩
        . rintro (h10 | ⟨h10, h11⟩)
          . exact .inl h10
          . refine .inr ⟨h10, h11, Classical.byContradiction fun hgt => ?_⟩
            obtain ⟨a, h13, h14, h15⟩ := hafter y h10 h11 hgt
            omega
      . simp only [h1, if_true, Bool.false_eq_true, if_false]; omega
  . have hfin := hfa h1
    clear htr hfa
    refine ρ ?_
    refine Ja (fun (q : Nat) (R : LS) => [(0, .pointer (some ⟨c.J, 0, none⟩)), (1, .int .i64 (v : Int)), (8, .bool true), (83, .slice B2 (c.I v).length cc2), (84, .int .i64 ((c.I v).length : Int)), (85, .int .i64 (q : Int))])
      (fun q R w' => q ≤ (c.I v).length ∧ GrN c.N w w' ∧ Cfg c Y w' s.z R.L R.p R.e s.f s.h s.l ∧
        (∀ i ∈ (c.I v).take q, R.L i = lv (c.vars i) v ∧ R.p i = p i ∧ R.e i = e i) ∧
        (∀ i, i < c.m → i ∉ (c.I v).take q → R.L i = S.L i ∧ R.p i = s.p i ∧ R.e i = S.e i)) (fun q _ => (c.I v).length - q) 0 ⟨S.L, s.p, S.e, s.f, s.h⟩ sB
      ⟨Nat.zero_le _, hg2, H2, fun i hi => by simp at hi, fun i _ _ => ⟨rfl, rfl, rfl⟩⟩ ?_
    rintro q R w3 ⟨hq, hg3, H3, ha3, hb3⟩
    refine ρ ?_
    refine ci (fun h2 => ?_) (fun h2 => ?_)
    . have lq : q < (c.I v).length := by have := oT h2; omega
      clear h2
      have hR3 := hlist w3 hg3
      refine ρ ?_
      refine ix q hR3 lq ?_
      refine ρ ?_
      refine ld (hR3.cell (Jqn lq)) ?_
      refine ρ ?_
      obtain ⟨i, hi⟩ : ∃ i, i = (c.I v).getD q 0 := ⟨_, rfl⟩
      rw [← hi]
      have him : i ∈ c.I v := by rw [hi]; exact getD_mem' 0 _ lq
      obtain ⟨him1, him2⟩ := JC.mem_I.1 him
      have htk : (c.I v).take (q + 1) = (c.I v).take q ++ [i] := by rw [Qy 0 lq, hi]
      have hnq : i ∉ (c.I v).take q := fun hm => by
        have h1 : ((c.I v).take (q + 1)).Nodup := (c.nodup_I v).sublist (List.take_sublist _ _)
        rw [htk, List.nodup_append] at h1
        exact h1.2.2 _ hm _ (List.mem_singleton.2 rfl) rfl
      obtain ⟨e1, e2, e3⟩ := hb3 i him1 hnq
      obtain ⟨sti, hIi⟩ := H3.its i him1
      rw [e1, (ha1 i him).1] at hIi
      have hdl := hok.lvd him
      have hd32 := hok.d32 i him1
      refine cl (Qls hIi om) ?_
      rintro u w4 ⟨hg4, hI4⟩
      have hfk := hfh i him1 (lv (c.vars i) v) (by rw [(ha1 i him).1]; omega)
      have hsf : S.f i (lv (c.vars i) v) = p i := by rw [(ha1 i him).2.2.2.2.1, Jg]
      have hsh : S.h i (lv (c.vars i) v) = e i := by rw [(ha1 i him).2.2.2.2.2, Jg]
      rw [hfk.1, hfk.2, hsf, hsh] at hI4
      have H4 := H3.it hok hY him1 hg4 hI4
      have H4' : Cfg c Y w4 s.z (upd R.L i (lv (c.vars i) v)) (upd R.p i (p i)) (upd R.e i (e i)) s.f s.h s.l := by
        rw [Jqg, Jqg] at H4; exact H4
      refine ρ ?_
      refine Jl (q + 1) ⟨upd R.L i (lv (c.vars i) v), upd R.p i (p i), upd R.e i (e i), s.f, s.h⟩ sO ⟨om, hg3.trans (hg4.mono fun j _ ej => hNIN j (.inr (.inl ⟨i, him1, ej⟩))), H4', fun j hj => ?_, fun j hj hjn => ?_⟩ om
      . rw [htk, List.mem_append, List.mem_singleton] at hj
        by_cases ej : j = i
        . subst ej; simp only [Jg]; exact ⟨trivial, trivial, trivial⟩
        . simp only [Jy _ _ ej]; exact ha3 j (hj.resolve_right ej)
      . rw [htk, List.mem_append, List.mem_singleton, not_or] at hjn
        simp only [Jy _ _ hjn.2]
        exact hb3 j hj hjn.1
    . have eq : q = (c.I v).length := by have := oF h2; omega
      rw [eq, List.take_of_length_le (Nat.le_refl _)] at ha3 hb3
      have H5 : Cfg c Y w3 s.z (fun i => lv (c.vars i) v) p e s.f s.h s.l := H3.congr fun i hi => by
        by_cases him : i ∈ c.I v
        . have := ha3 i him
          exact ⟨this.1.symm, this.2.1.symm, this.2.2.symm, rfl, rfl⟩
        . have h5 := hb3 i hi him
          have h6 := hb1 i hi him
          exact ⟨(h5.1.trans h6.1).symm, (h5.2.1.trans (hpn i hi him)).symm, (h5.2.2.trans h6.2.2.1).symm, rfl, rfl⟩
      refine ρ ?_
      refine Jj ⟨rfl, hg3, s.z, s.f, s.h, s.l, H5, hz2, fun i hi k hk => ?_, hls2, hfin⟩
      have h5 := hfh i hi k (by rw [hSL i hi]; have := Jst (c.vars i) v; by_cases him : i ∈ c.I v
                                . rw [(Vt (hok.asc i hi) (JC.mem_I.1 him).2).1]; omega
                                . rw [Jjg (fun h' => him (JC.mem_I.2 ⟨hi, h'⟩))]; exact hk)
      by_cases him : i ∈ c.I v
      . obtain ⟨_, _, _, _, h8, h9⟩ := ha1 i him
        rw [h5.1, h5.2, h8, h9, Jy _ _ om, Jy _ _ om]; exact ⟨rfl, rfl⟩
      . obtain ⟨_, _, _, h8, h9⟩ := hb1 i hi him
        rw [h5.1, h5.2, h8, h9]; exact ⟨rfl, rfl⟩
open Go.RowKit Pl Go.Wk
variable {g j k v:Nat}{p v4 va':Value}{w1 w2 w4:World}
theorem EIt: ElT Tryz.prog 282 288 1 8 (.pointer none):=⟨Tryz.underlying282,info_parts kr,rfl,by decide⟩
theorem EIts: ElT Tryz.prog 279 282 1 24 (.slice none 0 0):=⟨Tryz.underlying279,info_parts kr,rfl,by decide⟩
theorem Qxw(p:Option Addr)(w:World): (Instr.buildSlice 282 1 #[(0,.pointer p)]).run Tryz.prog w=.ok (.slice (some ⟨w.heap.size,0,none⟩) 1 1) (w.alloc (.cells [.pointer p].toArray 288)):=kr
theorem Qtj(A B:Option Addr)(n:Nat)(fid:FuncId)(first cap:Array Value)(w:World): (Instr.build 281 #[(0,.slice A n n),(1,.slice B n n),(3,.func (.func fid) first cap)]).run Tryz.prog w=.ok (.agg #[.slice A n n,.slice B n n,.int .i64 0,.func (.func fid) first cap]) w:=kr
structure RK where
 n: Nat
 vars:Nat->List Nat
 rs:Nat->List Row
 base:Nat
 J:Nat
 Ra:Option Addr
 Ba:Option Addr
 yv:Value
structure RS where
 G: Nat->Nat
 A:Nat->Option Addr
 lo:Nat->Nat
 hi:Nat->Nat
 va:Value
 vat:Nat->Value
def OB(K:RK)(S:RS)(k:Nat): Prop:=k=K.J∨(Value.slice K.Ra K.n K.n).ownBlock=some k∨(Value.slice K.Ba K.n K.n).ownBlock=some k∨S.va.ownBlock=some k∨∃ v,v<K.n/\(S.vat v).ownBlock=some k
structure RB(K:RK)(q:Nat)(S:RS)(cont:Nat->List Value)(alls:List Value)(w:World): Prop where
 jb:Blk w K.J 281 [.slice K.Ra K.n K.n,.slice K.Ba K.n K.n,.int .i64 0,K.yv]
 row:Zt w K.base (.slice K.Ra K.n K.n) (List.replicate K.n V0)
 at_:w.ownsRow K.base 282 1 (.slice K.Ba K.n K.n) K.n ((List.range K.n).map S.vat)
 lists:Fam w K.base 288 1 K.n S.vat (λv=>(cont v).length) cont
 all:w.ownsRow K.base 288 1 S.va alls.length alls
 alld:∀ v g,v<K.n->(S.vat v).ownBlock=some g->S.va.ownBlock≠some g
 its:∀ j,j<q->ItB w (S.G j) (S.A j) (K.vars j).length 0 0 0 (λ_=>0) (λ_=>0) 0
 tri:∀ j,j<q->Off (λk=>k<S.lo j∨S.hi j<=k) w (λu=>TriA u (S.A j) (K.vars j).length (K.rs j))
 iv:∀ j k,j<q->OB K S k->k<S.lo j∨S.hi j<=k
 gi:∀ i j,i<q->j<q->S.G i<S.lo j∨S.hi j<=S.G i
 ginj:∀ i j,i<j->j<q->S.G i<S.G j
 jlo:∀ j,j<q->K.J<S.lo j/\S.hi j<=w.heap.size
 jg:∀ j,j<q->K.J<S.G j
 bj:K.base<=K.J
section
variable {K:RK} {q:Nat} {S:RS} {cont:Nat->List Value} {alls:List Value} {w w':World}
theorem RB.ext(H:RB K q S cont alls w)(hx:Ext w w'): RB K q S cont alls w' :=
 ⟨H.jb.ext hx,Jk H.row hx,Jk H.at_ hx,H.lists.ext hx,Jk H.all hx,H.alld,λj o=>(H.its j o).ext hx,λj o=>(H.tri j o).ext hx,H.iv,H.gi,H.ginj,λj o=>⟨(H.jlo j o).1,Nat.le_trans (H.jlo j o).2 hx.size⟩,H.jg,H.bj⟩
theorem RB.oblt(H:RB K q S cont alls w)(h:OB K S k): k<w.heap.size:=by
 have o:∀ {base e sz m:Nat} {v:Value} {xs:List Value},w.ownsRow base e sz v m xs->∀ g,v.ownBlock=some g->g<w.heap.size:=λu g G=>by
  obtain ⟨_,_,_,_,C⟩:=Jv u;exact (C g G).2
 rcases h with h|h|h|h|⟨v,hv,h⟩
 .rw [h];exact H.jb.lt
 .exact o H.row k h
 .exact o H.at_ k h
 .exact o H.all k h
 .exact o (H.lists.own v hv) k h
theorem RB.iter(H:RB K q S cont alls w){A:Option Addr}(hx1:Ext w w1)(hT:Off (λk=>k<w.heap.size) w1 (λu=>TriA u A (K.vars q).length (K.rs q)))(hx2:Ext w1 w2)(hg:w1.heap.size<=g)(hI:ItB w2 g A (K.vars q).length 0 0 0 (λ_=>0) (λ_=>0) 0):
  RB K (q+1) { S with G:=upd S.G q g,A:=upd S.A q A,lo:=upd S.lo q w.heap.size,hi:=upd S.hi q w1.heap.size } cont alls w2:=by
 have O:=H.ext (hx1.trans hx2);have a3:=hI.lt;have J:∀ {j},j<q->j≠q:=λh e=>by omega
 have C:∀ {j},j<q+1->j<q∨j=q:=λh=>by omega
 have a2:=hx1.size;have a1:=hx2.size;refine ⟨O.jb,O.row,O.at_,O.lists,O.all,O.alld,λj o=>?_,λj o=>?_,λj k o hk=>?_,λi j hi o=>?_,λi j U o=>?_,λj o=>?_,λj o=>?_,O.bj⟩
 .rcases C o with o|rfl
  .simp only [Jy _ _ (J o)];exact O.its j o
  .simp only [Jg];exact hI
 .rcases C o with o|rfl
  .simp only [Jy _ _ (J o)];exact O.tri j o
  .simp only [Jg];exact (hT.mono λk hk h=>by
    rcases h with h|h
    .exact h
    .omega).ext hx2
 .have Z:OB K S k:=hk;rcases C o with o|rfl
  .simp only [Jy _ _ (J o)];exact H.iv j k o Z
  .simp only [Jg];exact .inl (H.oblt Z)
 .rcases C o with o|rfl
  .simp only [Jy _ _ (J o)];have h5:=(H.jlo j o).2;rcases C hi with hi|rfl
   .simp only [Jy _ _ (J hi)];exact H.gi i j hi o
   .simp only [Jg];exact .inr om
  .simp only [Jg];rcases C hi with hi|rfl
   .simp only [Jy _ _ (J hi)];exact .inl (H.its i hi).lt
   .simp only [Jg];exact .inr hg
 .rcases C o with o|rfl
  .simp only [Jy _ _ (J o),Jy _ _ (J (show i<q by omega))];exact H.ginj i j U o
  .simp only [Jg,Jy _ _ (J U)];have:=(H.its i U).lt;omega
 .rcases C o with o|rfl
  .simp only [Jy _ _ (J o)];exact O.jlo j o
  .simp only [Jg];exact ⟨H.jb.lt,a1⟩
 .rcases C o with o|rfl
  .simp only [Jy _ _ (J o)];exact O.jg j o
  .simp only [Jg];have:=H.jb.lt;omega
theorem RB.trig(H:RB K q S cont alls w){N:Nat->Prop}(hg:GrN N w w')(hN:∀ k,k<w.heap.size->N k->OB K S k)(hj:j<q): Off (λk=>k<S.lo j∨S.hi j<=k) w' (λu=>TriA u (S.A j) (K.vars j).length (K.rs j)) :=
 (H.tri j hj).gr (hg.mono λk o h=>H.iv j k hj (hN k o h))
theorem RB.pushAll(H:RB K q S cont alls w)(ho:w'.ownsRow K.base 288 1 va' (alls.length+1) (alls++[p]))(hg:w.grownBy w' S.va.ownBlock)(hn:∀ g,va'.ownBlock=some g->S.va.ownBlock=some g∨w.heap.size<=g):
  RB K q { S with va:=va' } cont (alls++[p]) w':=by
 have u:GrN (λk=>S.va.ownBlock=some k) w w':=GrN.by hg λk Z=>Z
 have O:∀ g,S.va.ownBlock=some g->g≠K.J:=λg G e=>(H.jb.ne_own H.all rfl) (by rw [G,e]);have C:∀ k,OB K { S with va:=va' } k->OB K S k∨w.heap.size<=k:=λk U=>by
  rcases U with h|h|h|h|h
  .exact .inl (.inl h)
  .exact .inl (.inr (.inl h))
  .exact .inl (.inr (.inr (.inl h)))
  .rcases hn k h with h'|h'
   .exact .inl (.inr (.inr (.inr (.inl h'))))
   .exact .inr h'
  .exact .inl (.inr (.inr (.inr (.inr h))))
 refine ⟨Jc H.jb u (λe=>O _ e rfl),Zj H.row H.all hg rfl,Zj H.at_ H.all hg rfl,H.lists.gr u (λi g hi G e=>H.alld i g hi G e),by rw [List.length_append];exact ho,λv g hv G e=>?_,λj o=>?_,λj o=>?_,λj k o U=>?_,H.gi,H.ginj,λj o=>⟨(H.jlo j o).1,Nat.le_trans (H.jlo j o).2 hg.size⟩,H.jg,H.bj⟩
 .rcases hn g e with h'|h'
  .exact H.alld v g hv G h'
  .have:=(H.lists.lt hv G).2;omega
 .exact Jc (H.its j o) u (λe=>(H.its j o).ne_own H.all rfl e.symm)
 .exact H.trig u (λk _ Z=>.inr (.inr (.inr (.inl Z)))) o
 .rcases C k U with h'|h'
  .exact H.iv j k o h'
  .have:=(H.jlo j o).2;exact .inr (by simp only;omega)
theorem RB.pushAt(H:RB K q S cont alls w)(hv:v<K.n)(ho:w4.ownsRow K.base 288 1 v4 ((cont v).length+1) (cont v++[p]))(hg:w.grownBy w4 (S.vat v).ownBlock)(hn:∀ g,v4.ownBlock=some g->(S.vat v).ownBlock=some g∨w.heap.size<=g):
  w4.cell? (adr K.Ba v)=some (S.vat v)/\w4.frozen? (adr K.Ba v)=false/\v4.oneCell'=true/\RB K q { S with vat:=upd S.vat v v4 } (upd cont v (cont v++[p])) alls (w4.setCell (adr K.Ba v) v4)/\GrN (λk=>(S.vat v).ownBlock=some k∨(Value.slice K.Ba K.n K.n).ownBlock=some k) w (w4.setCell (adr K.Ba v) v4):=by
 have G:=H.lists.own v hv;have a1:w4.ownsRow K.base 282 1 (.slice K.Ba K.n K.n) K.n ((List.range K.n).map S.vat):=Zj H.at_ G hg rfl;have F4:=H.lists.upd hv ho hg hn;obtain ⟨s1,s2,s3,s4,s5⟩:=Zv a1 (q:=v) om v4;have h1:v4.oneCell'=true:=by obtain ⟨B,c,e,_⟩:=Jv ho;rw [e];rfl
 have o:GrN (λk=>(S.vat v).ownBlock=some k∨(Value.slice K.Ba K.n K.n).ownBlock=some k) w (w4.setCell (adr K.Ba v) v4):=(GrN.by hg λk ek=>.inl ek).trans (GrN.by s5 λk ek=>.inr ek);have a2:∀ k,(S.vat v).ownBlock=some k∨(Value.slice K.Ba K.n K.n).ownBlock=some k->OB K S k:=λk U=>by
  rcases U with h|h
  .exact .inr (.inr (.inr (.inr ⟨v,hv,h⟩)))
  .exact .inr (.inr (.inl h))
 have O:∀ k,OB K { S with vat:=upd S.vat v v4 } k->OB K S k∨w.heap.size<=k:=λk U=>by
  rcases U with h|h|h|h|⟨u,hu,h⟩
  .exact .inl (.inl h)
  .exact .inl (.inr (.inl h))
  .exact .inl (.inr (.inr (.inl h)))
  .exact .inl (.inr (.inr (.inr (.inl h))))
  .by_cases e:u=v
   .subst e;simp only [Jg]at h;rcases hn k h with h'|h'
    .exact .inl (.inr (.inr (.inr (.inr ⟨u,hu,h'⟩))))
    .exact .inr h'
   .simp only [Jy _ _ e]at h;exact .inl (.inr (.inr (.inr (.inr ⟨u,hu,h⟩))))
 have a3:((List.range K.n).map S.vat).set v v4=(List.range K.n).map (upd S.vat v v4):=by
  apply List.ext_getElem?
  intro i;rw [List.getElem?_set];by_cases e:v=i
  .subst e;simp [hv,Jg]
  .rw [if_neg e];by_cases hi:i<K.n
   .simp [hi,Jy S.vat v4 (λe'=>e e'.symm)]
   .simp [hi]
 rw [a3]at s3;have F5:=F4.other a1 s5 rfl;have nJ:¬ ((S.vat v).ownBlock=some K.J∨(Value.slice K.Ba K.n K.n).ownBlock=some K.J):=by
  rintro (h|h)
  .exact H.jb.ne_own G rfl h.symm
  .exact H.jb.ne_own H.at_ rfl h.symm
 refine ⟨s1.trans (by simp [hv]),s2,h1,⟨Jc H.jb o nJ,Zj (Zj H.row G hg rfl) a1 s5 rfl,s3,⟨λi hi=>?_,F5.dis⟩,Jr H.all o (λg Z=>?_),λu g hu Z e=>?_,λj C=>?_,λj C=>H.trig o (λk _ U=>a2 k U) C,λj k C U=>?_,H.gi,H.ginj,λj C=>⟨(H.jlo j C).1,Nat.le_trans (H.jlo j C).2 o.size⟩,H.jg,H.bj⟩,o⟩
 .have:=F5.own i hi;by_cases e:i=v
  .subst e;rw [Jg,Jg,Jg]at this;simp only [Jg,List.length_append,List.length_singleton];exact this
  .rw [Jy _ _ e,Jy _ _ e,Jy _ _ e]at this;simp only [Jy _ _ e];exact this
 .rintro (h|h)
  .exact H.alld v g hv h Z
  .exact Jqt H.at_ H.all rfl h Z
 .by_cases e':u=v
  .subst e';simp only [Jg]at Z;rcases hn g Z with h'|h'
   .exact H.alld u g hu h' e
   .obtain ⟨_,_,_,_,hf⟩:=Jv H.all;have:=(hf g e).2;omega
  .simp only [Jy _ _ e']at Z;exact H.alld u g hu Z e
 .refine Jc (H.its j C) o ?_;rintro (h|h)
  .exact (H.its j C).ne_own G rfl h.symm
  .exact (H.its j C).ne_own H.at_ rfl h.symm
 .rcases O k U with h'|h'
  .exact H.iv j k C h'
  .have:=(H.jlo j C).2;exact .inr (by simp only;omega)
end
open Go.RowKit Pl Go.Wk
attribute [local irreducible] WG
variable {vs:List Nat}{cs xs:List Value}{ca d g i m n q:Nat}{G G' L e p:Nat->Nat}{N N' NY:Nat->Prop}{v x y yv:Value}{w w1 w2:World}
structure YS(s:Nat)(yv:Value)(bx:Nat->Prop)(Y:Nat->List Row->World->Prop): Prop where
 keep:∀ base l w w',Y base l w->GrN (λk=>s<=k/\k<base) w w'->Y base l w'
 call:∃ fid first cap,yv=.func (.func fid) first cap/\∀ base l w vr z,base<=w.heap.size->Y base l w->RowV w vr z->l.length<65536->Ret Tryz.prog fid (first.toList++[vr]++cap.toList) w λr w'=>r=.bool true/\Y base (l++[z]) w'/\GrN (λk=>bx k∨base<=k) w w'
theorem Jwk(ha:Qo vs)(hl:∀ u∈vs,u<n): vs.length<=n:=by
 have key:∀ k,lv vs k<=k:=by
  intro k;induction k with
  | zero=>rw [Jkb];exact Nat.le_refl _
  | succ k ih=>
   by_cases h:k∈vs
   .rw [(Vt ha h).1];omega
   .rw [Jjg h];omega
 have:=key n;rwa [Jsw hl]at this
theorem Jvz{cs:List Nat}(h:i<cs.length): (nz cs).getD i 0=(cs.getD i 0:Int):=by
 simp [nz,List.getD,List.getElem?_eq_getElem h]
structure RunOk(n:Nat)(ts:List TA)(vars:Nat->List Nat)(rs:Nat->List Row): Prop where
 n32:n<=32
 m32:ts.length<=32
 at_:∀ i,i<ts.length->(ts.getD i ta0).2=⟨nz (vars i),(vars i).length,rs i⟩
 asc:∀ i,i<ts.length->Qo (vars i)
 lt:∀ i,i<ts.length->∀ u∈vars i,u<n
 cov:∀ v,v<n->∃ i,i<ts.length/\v∈vars i
 srt:∀ i,i<ts.length->Lt [] (rs i)
 len:∀ i,i<ts.length->∀ r∈rs i,r.length=(vars i).length
 big:∀ i,i<ts.length->(rs i).length<=65536
theorem Jvs{base base' e sz:Nat}(h:w.ownsRow base e sz v m xs)(hb:base'<=base): w.ownsRow base' e sz v m xs:=by
 rcases h with ⟨C,⟨rfl,rfl⟩|⟨g,u,cur,rfl,o,G⟩⟩
 .exact ⟨C,.inl ⟨rfl,rfl⟩⟩
 .exact ⟨C,.inr ⟨g,u,cur,rfl,Nat.le_trans hb o,G⟩⟩
theorem _root_.Go.Wk.Blk.sub2{t:TypeId}(h:Blk w g t cs)(h0:cs[i]?=some x)(h1:cs[i+1]?=some y): ∀ j u,[x,y][j]?=some u->w.cell? ((⟨g,i,none⟩:Addr).add j)=some u:=λj u o=>by
 match j,o with
 | 0,o=>simp only [List.getElem?_cons_zero,Option.some.injEq]at o;subst o;exact h.sub h0
 | 1,o=>simp only [List.getElem?_cons_succ,List.getElem?_cons_zero,Option.some.injEq]at o;subst o;exact h.sub h1
 | j+2,o=>simp at o
def Yl(d t:Nat): List Value:=(List.range d).map λj=>.int .i64 ((if j<t then j else 0:Nat):Int)
theorem Qrh(d:Nat): (madeCells (Value.int .i64 0).cells (d*1)).toList=Yl d 0:=by
 rw [Nat.mul_one];have e:(madeCells (Value.int .i64 0).cells d).toList=List.replicate d (Value.int .i64 0):=Yf _ _;rw [e];simp [Yl,List.map_const']
theorem Qrg(d:Nat): Yl d d=Jt (nz (List.range d)):=by
 simp only [Yl,Jt,nz,List.map_map];refine List.map_congr_left λj o=>?_;simp [List.mem_range.1 o]
theorem Qrd{t:Nat}(h:t<d): (Yl d t).set t (.int .i64 (t:Int))=Yl d (t+1):=by
 apply List.ext_getElem?
 intro i;rw [List.getElem?_set];by_cases e:t=i
 .subst e;simp [Yl,h]
 .rw [if_neg e];by_cases hi:i<d
  .simp only [Yl,List.getElem?_map,List.getElem?_range hi,Option.map_some];congr 2
   by_cases h1:i<t
   .rw [if_pos h1,if_pos om]
   .rw [if_neg h1,if_neg om]
  .simp [Yl,hi]
theorem Qrf(d t:Nat): (Yl d t).length=d:=by simp [Yl]
theorem Qgg(A:Option Addr)(n c:Nat): ∀ u∈[Value.slice A n c],u.oneCell'=true:=λu o=>by rw [List.mem_singleton.1 o];rfl
def itp(g:Nat): Value:=.pointer (some ⟨g,0,none⟩)
def Zs(vars:Nat->List Nat)(G:Nat->Nat)(q:Nat)(v:Nat): List Value:=((List.range q).filter λi=>decide (v∈vars i)).map λi=>itp (G i)
theorem Qrk(vars:Nat->List Nat)(G:Nat->Nat)(q v:Nat): (Zs vars G q v).length<=q:=by
 unfold Zs;rw [List.length_map];have:=List.length_filter_le (λi=>decide (v∈vars i)) (List.range q);rw [List.length_range]at this;exact this
theorem Qrj(vars:Nat->List Nat)(G:Nat->Nat)(q v:Nat): Zs vars G (q+1) v=Zs vars G q v++if v∈vars q then [itp (G q)] else []:=by
 unfold Zs;rw [List.range_succ,List.filter_append,List.map_append];congr 1
 by_cases h:v∈vars q
 .rw [if_pos h,List.filter_cons_of_pos (by simpa using h)];rfl
 .rw [if_neg h,List.filter_cons_of_neg (by simpa using h)];rfl
theorem Qrl{vars:Nat->List Nat}(h:∀ j,j<q->G j=G' j)(v:Nat): Zs vars G q v=Zs vars G' q v:=by
 unfold Zs;refine List.map_congr_left λi hi=>?_;rw [h i (List.mem_range.1 (List.mem_filter.1 hi).1)]
theorem _root_.Go.Wk.GrN.cut(hx:Ext w w1)(hg:GrN N w1 w2)(hN:∀ k,k<w.heap.size->N k->N' k): GrN N' w w2 :=
 ⟨hg.os.trans hx.os,hg.tape.trans hx.tape,hg.output.trans hx.output,Nat.le_trans hx.size hg.size,λk o hn=>(hg.block k (nM o hx.size) (λe=>hn (hN k o e))).trans (hx.block k o)⟩
theorem Cfg.steps{c:JC}{Y:List Row->World->Prop}{z:Row}{f h:Nat->Nat->Nat}{l:List Row}(H:Cfg c Y w z L p e f h l)(hok:JOk c)(hY:YC c Y NY){st:Int}(hJ:Blk w c.J 281 [c.rowv,c.ja,.int .i64 st,c.yv])(st':Int):
  Cfg c Y (w.setCell ⟨c.J,2,none⟩ (.int .i64 st')) z L p e f h l/\GrN c.NI w (w.setCell ⟨c.J,2,none⟩ (.int .i64 st')):=by
 have u:GrN (λk=>k=c.J) w (w.setCell ⟨c.J,2,none⟩ (.int .i64 st')):=GrN.set _ rfl;have o:GrN c.NI w (w.setCell ⟨c.J,2,none⟩ (.int .i64 st')):=GrN.set _ (.inl rfl);refine ⟨⟨H.env.gr (o.mono λk _ C=>hok.sub k C),λi hi=>?_,Jr H.row u (λg O=>H.rowJ O),H.zl,⟨_,hJ.set 2 _⟩,hY.keep _ _ _ H.y o⟩,o⟩;obtain ⟨st,G⟩:=H.its i hi;exact ⟨st,Jc G u (hok.gj i hi)⟩
theorem Qkf(h:Qo vs): vs.Nodup:=h.imp λh e=>by omega
theorem Jht(n:Nat): (madeCells (Value.slice none 0 0).cells (n*1)).toList=List.replicate n (Value.slice none 0 0):=by rw [Nat.mul_one];exact Yf _ _
set_option maxRecDepth 100000 in
set_option maxHeartbeats 2000000 in
theorem Qch{ts : List TA}{Aa : Option Addr}{vars : Nat → List Nat}{rs : Nat → List Row}{bx' : Nat → Prop}{Y : Nat → List Row → World → Prop}(hok : RunOk n ts vars rs)(hR : Rd w 3 Aa ts.length (atC ts))(hat : ∀ p ∈ ts, AtV w p.1 p.2)(hbx : ∀ k, bx' k → k < w.heap.size)(hY : YS w.heap.size yv bx' Y)(hY0 : ∀ w', Ext w w' → Y w'.heap.size [] w')(hcap : ∀ l : List Row, Lt [] l → (∀ x ∈ l, Zk n ts.length vars rs x) → l.length ≤ 65536):
    Ret Tryz.prog 187 [.int .i64 (n : Int), .slice Aa ts.length ca, yv] w fun u w' => GrN bx' w w' ∧ ∃ st base l, u = .tuple #[.int .i64 st, .int .i64 0] ∧ base ≤ w'.heap.size ∧ Y base l w' ∧ Lt [] l ∧ ∀ x, x ∈ l ↔ Zk n ts.length vars rs x := by
  have hn32 := hok.n32
  have hm32 := hok.m32
  obtain ⟨m, hm⟩ : ∃ m, m = ts.length := ⟨_, rfl⟩
  obtain ⟨fid, first, cap, hyv, hcall⟩ := hY.call
  subst hyv
  refine Jz Tryz.func187 Tryz.ntmps187 rfl kr rfl ?_
  refine ρ ?_
  have hxd : Ext w w.drew := (Ext.refl w).drew
  refine drG kr ?_
  refine Zo (fuel' := 5) [(0, 0), (0, 2), (0, 4)] #[true, false, true, false, true, false, false, false] kr kr rfl ?_
  refine ρd ?_
  refine Zu ?_
  refine gcut 3 #[true, true, true, true, true, false, false, false] (fun (x : Option Addr × Option Addr) => [(0, .int .i64 (n : Int)), (1, .slice Aa ts.length ca), (2, .func (.func fid) first cap), (24, .slice x.1 n n), (26, .slice x.2 n n), (27, .func (.func fid) first cap)])
    (fun x w' => Ext w.drew w' ∧ Zt w' w.heap.size (.slice x.1 n n) (List.replicate n V0) ∧ w'.ownsRow w.heap.size 282 1 (.slice x.2 n n) n (List.replicate n (.slice none 0 0))) ?_ ?_
  . rintro ⟨Ra, Ba⟩ w1 ⟨hx1, hrow1, hat1⟩
    refine Zo (fuel' := 0) [(1, 5), (1, 6), (0, 7)] #[true, true, true, true, true, true, true, true] kr kr rfl ?_
    refine Up ?_
    refine bld (Qtj _ _ _ _ _ _ _) ?_
    refine Jh (Un (Ext.refl _) ?_)
    refine Up ?_
    refine bx ?_
    intro w2 J hx2 hJ hkJ
    refine Jh (Un hx2 ?_)
    refine ρd ?_
    refine Zu ?_
    refine gend kr ?_
    refine ρ ?_
    have hxw2 : Ext w w2 := (hxd.trans hx1).trans hx2
    have hbJ : w.heap.size ≤ J := nL (hxd.trans hx1).size hJ
    obtain ⟨K, hK⟩ : ∃ K : RK, K = ⟨n, vars, rs, w.heap.size, J, Ra, Ba, .func (.func fid) first cap⟩ := ⟨_, rfl⟩
    have H2 : RB K 0 ⟨fun _ => 0, fun _ => none, fun _ => 0, fun _ => 0, .slice none 0 0, fun _ => .slice none 0 0⟩ (fun _ => []) [] w2 := by
      subst hK
      refine ⟨hkJ, Jk hrow1 hx2, ?_, ⟨fun i hi => Xo _ _ _ _, fun i j g _ _ _ e => (by cases e)⟩, Xo _ _ _ _, fun v g _ e => (by cases e), fun j hj => by omega, fun j hj => by omega, fun j k hj => by omega, fun i j hi => by omega, fun i j _ hj => by omega, fun j hj => by omega, fun j hj => by omega, hbJ⟩
      have := Jk hat1 hx2
      have e : List.replicate n (Value.slice none 0 0) = (List.range n).map fun _ => Value.slice none 0 0 := by simp [List.map_const']
      rw [e] at this; exact this
    clear hrow1 hat1
    refine Qd (fun (i : Nat) => [(0, .int .i64 (n : Int)), (1, .slice Aa ts.length ca), (8, .pointer (some ⟨J, 0, none⟩)), (30, .slice Aa ts.length ca), (31, .int .i64 (ts.length : Int)), (32, .int .i64 (i : Int))])
      (fun i w' => i ≤ ts.length ∧ Ext w2 w' ∧ ∀ j, j < i → rs j ≠ []) (fun i => ts.length - i) 0 sB ⟨Nat.zero_le _, Ext.refl _, fun j hj => by omega⟩ ?_
    rintro i w3 ⟨hi, hx3, hne3⟩
    refine ρ ?_
    refine ci (fun h => ?_) (fun h => ?_)
    . have li : i < ts.length := by have := oT h; omega
      have hR3 := hR.ext (hxw2.trans hx3)
      obtain ⟨t1, t2, t3, a, hp⟩ : ∃ t1 t2 t3 a, ts.getD i ta0 = ((t1, t2, t3), a) := ⟨_, _, _, _, rfl⟩
      have hA0 : AtV w (t1, t2, t3) a := by have := hat _ (Ic rfl li); rw [hp] at this; exact this
      have ea : a = ⟨nz (vars i), (vars i).length, rs i⟩ := by have := hok.at_ i li; rw [hp] at this; exact this
      clear h
      obtain ⟨⟨D, d, e1, hd, hdm, hdr⟩, e2, hrows⟩ := id hA0
      simp only at e1 e2
      subst e1; subst e2
      obtain ⟨ps, G, gc, _, hv3, _⟩ := id hrows
      simp only at hv3
      subst hv3
      refine ρ ?_
      refine ixq 3 i hR3 li ?_
      refine ρ ?_
      refine lds (cs := [.slice D a.vars.length d, .int .i64 (a.ar : Int), .slice G ps.length gc]) (fun j u hu => Jwh hR3 rfl li (by rw [hp]; exact hu)) ?_
      refine ρ ?_
      refine alc Yj ?_
      intro w4 b hx4 hb hB
      refine ρ ?_
      refine stb hB ?_ hA0.one
      intro w5 hB5 hg5 hx5
      have hx35 : Ext w3 w5 := hx5 w3 hx4 hb
      refine ρ ?_
      refine lds (cs := [.int .i64 (a.ar : Int), .slice G ps.length gc]) (hB5.sub2 (i := 1) rfl rfl) ?_
      refine ρ ?_
      refine cl (Jzq ((hA0.ext (((hxw2.trans hx3).trans hx35))).rel)) ?_
      rintro u w6 ⟨rfl, hx6⟩
      refine ρ ?_
      refine ci (fun h => ?_) (fun h => ?_)
      . refine ρ ?_
        have hxw6 : Ext w w6 := ((hxw2.trans hx3).trans hx35).trans hx6
        refine Yk ⟨(GrN.ext hxw6), 0, w6.heap.size, [], rfl, Nat.le_refl _, hY0 w6 hxw6, List.Pairwise.nil, fun x => ⟨fun hx => (by cases hx), fun hx => ?_⟩⟩
        have h1 := hx.2 i li
        have h2 : a.rows.length = 0 := by have := Xl h; omega
        rw [ea] at h2
        have h3 : rs i = [] := List.eq_nil_of_length_eq_zero h2
        rw [h3] at h1; cases h1
      . have h2 : rs i ≠ [] := fun e => by
          have h3 := Xm h
          rw [ea, e] at h3; exact h3 rfl
        refine ρ ?_
        refine Qw (i + 1) sO ⟨om, (hx3.trans hx35).trans hx6, fun j hj => ?_⟩ om
        by_cases e : j = i
        . rw [e]; exact h2
        . exact hne3 j om
    . have hi' : i = ts.length := by have := oF h; omega
      subst hi'
      refine ρ ?_
      refine Ja (fun (q : Nat) (S : RS) => [(0, .int .i64 (n : Int)), (8, .pointer (some ⟨J, 0, none⟩)), (11, S.va), (41, .slice Aa ts.length ca), (42, .int .i64 (ts.length : Int)), (43, .int .i64 (q : Int))])
        (fun q S w' => q ≤ ts.length ∧ Ext w w' ∧ RB K q S (Zs vars S.G q) ((List.range q).map fun j => itp (S.G j)) w') (fun q _ => ts.length - q) 0 ⟨fun _ => 0, fun _ => none, fun _ => 0, fun _ => 0, .slice none 0 0, fun _ => .slice none 0 0⟩ sB
        ⟨Nat.zero_le _, hxw2.trans hx3, H2.ext hx3⟩ ?_
      rintro q S w4 ⟨hq, hx4, H4⟩
      refine ρ ?_
      refine ci (fun h => ?_) (fun h => ?_)
      . have lq : q < ts.length := by have := oT h; omega
        have hR4 := hR.ext hx4
        obtain ⟨t1, t2, t3, a, hp⟩ : ∃ t1 t2 t3 a, ts.getD q ta0 = ((t1, t2, t3), a) := ⟨_, _, _, _, rfl⟩
        have hA0 : AtV w (t1, t2, t3) a := by have := hat _ (Ic rfl lq); rw [hp] at this; exact this
        have ea : a = ⟨nz (vars q), (vars q).length, rs q⟩ := by have := hok.at_ q lq; rw [hp] at this; exact this
        subst ea
        clear h
        obtain ⟨⟨D, d, e1, hd, hdm, hdr⟩, e2, hrows⟩ := id hA0
        simp only at e1 e2
        subst e1; subst e2
        obtain ⟨ps, G, gc, _, hv3, _⟩ := id hrows
        simp only at hv3
        subst hv3
        have hnl := Qq (vars q)
        have hdl : (vars q).length ≤ n := Jwk (hok.asc q lq) (hok.lt q lq)
        refine ρ ?_
        refine ixq 3 q hR4 lq ?_
        refine ρ ?_
        refine lds (cs := [.slice D (nz (vars q)).length d, .int .i64 ((vars q).length : Int), .slice G ps.length gc]) (fun j u hu => Jwh hR4 rfl lq (by rw [hp]; exact hu)) ?_
        refine ρ ?_
        refine alc Yj ?_
        intro w5 b hx5 hb hB
        refine ρ ?_
        refine stb hB ?_ hA0.one
        intro w6 hB6 hg6 hx6
        have hx46 : Ext w4 w6 := hx6 w4 hx5 hb
        have H6 := H4.ext hx46
        refine ρ ?_
        refine ld (hB6.at (i := 0) rfl) ?_
        refine ρ ?_
        rw [hnl]
        refine mkn EI (vars q).length om (by unfold maxLen; omega) ?_
        intro w7 O hx7 ho7 hO7
        rw [Qrh] at ho7
        refine ρ ?_
        refine Qd (fun (t : Nat) => [(0, .int .i64 (n : Int)), (8, .pointer (some ⟨J, 0, none⟩)), (11, S.va), (41, .slice Aa ts.length ca), (42, .int .i64 (ts.length : Int)), (43, .int .i64 (q : Int)), (13, .pointer (some ⟨b, 0, none⟩)), (14, .slice O (vars q).length (vars q).length), (51, .slice O (vars q).length (vars q).length), (52, .int .i64 ((vars q).length : Int)), (53, .int .i64 (t : Int))])
          (fun t w' => t ≤ (vars q).length ∧ Ext w6 w' ∧ w'.ownsRow w6.heap.size 3 1 (.slice O (vars q).length (vars q).length) (vars q).length (Yl (vars q).length t)) (fun t => (vars q).length - t) 0 sB
          ⟨Nat.zero_le _, hx7, ho7⟩ ?_
        clear ho7 hx7
        rintro t w8 ⟨ht, hx8, ho8⟩
        refine ρ ?_
        refine ci (fun h => ?_) (fun h => ?_)
        . have lt : t < (vars q).length := by have := oT h; omega
          clear h
          refine ρ ?_
          refine ix t (Rd.own ho8) lt ?_
          obtain ⟨s1, s2, s3, s4, s5⟩ := Zv ho8 (q := t) om (.int .i64 (t : Int))
          have hcl : t < (Yl (vars q).length t).length := by rw [Qrf]; exact lt
          refine ρ ?_
          refine sto (s1.trans (gE hcl)) s2 ?_
          rw [Qrd lt] at s3
          have hx9 : Ext w6 (w8.setCell (adr O t) (.int .i64 (t : Int))) := Qb hx8 s5 (fun k hk => by
            obtain ⟨_, _, _, _, hf⟩ := Jv ho8
            exact (hf k hk).1)
          refine ρ ?_
          exact Qw (t + 1) sO ⟨om, hx9, s3⟩ om
        . have ht' : t = (vars q).length := by have := oF h; omega
          subst ht'
          clear h
          rw [Qrg] at ho8
          have hB8 := hB6.ext hx8
          have hxw8 : Ext w w8 := (hx4.trans hx46).trans hx8
          have hcols : IntsV w8 (.slice O (vars q).length (vars q).length) (nz (List.range (vars q).length)) := by
            have e : (nz (List.range (vars q).length)).length = (vars q).length := by rw [Qq, List.length_range]
            exact ⟨O, (vars q).length, by rw [e], by rw [e]; exact Nat.le_refl _, by rw [e]; omega, by rw [e]; exact Rd.own ho8⟩
          refine ρ ?_
          refine lds (cs := [.int .i64 ((vars q).length : Int), .slice G ps.length gc]) (hB8.sub2 (i := 1) rfl rfl) ?_
          refine ρ ?_
          refine cl (Qyb (hA0.ext hxw8).rel (hok.srt q lq) (hok.len q lq) hcols (show (vars q).length ≤ 32 by omega) (hok.big q lq)) ?_
          rintro u w9 ⟨hx9, tv, rfl, ⟨TA0, rfl⟩, hT9⟩
          refine ρ ?_
          refine alc Jbl ?_
          intro w10 b2 hx10 hb2 hBt
          refine ρ ?_
          refine stb (cs' := [.slice TA0 (vars q).length (vars q).length]) hBt ?_ (Qgg _ _ _)
          intro w11 hB11 hg11 hx11
          have hx9b : Ext w9 w11 := hx11 w9 hx10 hb2
          refine ρ ?_
          refine ldW hB11 ?_
          refine ρ ?_
          refine cl (Qyc w11) ?_
          rintro u w12 ⟨hx12, g, rfl, hg12, hI12⟩
          have H8 := H6.ext hx8
          have hTA : Off (fun k => k < w8.heap.size) w9 (fun u => TriA u TA0 (K.vars q).length (K.rs q)) := by
            subst hK; exact hT9.imp fun u h => h.a
          have hI12' : ItB w12 g TA0 (K.vars q).length 0 0 0 (fun _ => 0) (fun _ => 0) 0 := by subst hK; exact hI12
          have H12 := H8.iter hx9 hTA (hx9b.trans hx12) (nL hx9b.size hg12) hI12'
          have hB12 := hB8.ext (((hx9.trans hx9b)).trans hx12)
          have hKn : K.n = n := by rw [hK]
          have hKb : K.base = w.heap.size := by rw [hK]
          have hKJ : K.J = J := by rw [hK]
          have hKB : K.Ba = Ba := by rw [hK]
          have hxw12 : Ext w w12 := (hxw8.trans hx9).trans (hx9b.trans hx12)
          have hnw : ∀ {w' : World} {e sz m' : Nat} {v : Value} {xs : List Value}, w'.ownsRow K.base e sz v m' xs → ∀ k, v.ownBlock = some k → w.heap.size ≤ k := fun ho k ek => by
            obtain ⟨_, _, _, _, hf⟩ := Jv ho
            rw [← hKb]; exact (hf k ek).1
          refine ρ ?_
          refine bsl (Qxw (some ⟨g, 0, none⟩)) ?_
          intro w13 b3 hx13 hb3 hB3
          have H13 := H12.ext hx13
          refine ρ ?_
          refine apb (base := K.base) EIt H13.all (hB3.rd (n := 1) rfl) (fun u hu => by rw [List.mem_singleton.1 hu]; rfl) (by unfold maxLen; simp; omega) (by simp; omega) (by rw [hKb]; exact (hxw12.trans hx13).size) ?_
          intro va' w14 ho14 hg14 hn14
          have H14 := H13.pushAll ho14 hg14 hn14
          have hB14 := (hB12.ext hx13).grown hg14 ((hB12.ext hx13).ne_own H13.all rfl)
          have hx14 : Ext w w14 := Qb (hxw12.trans hx13) hg14 (hnw H13.all)
          refine ρ ?_
          refine ld (hB14.at (i := 0) rfl) ?_
          refine ρ ?_
          refine Ja (fun (t : Nat) (vt : Nat → Value) => [(0, .int .i64 (n : Int)), (8, .pointer (some ⟨J, 0, none⟩)), (11, va'), (41, .slice Aa ts.length ca), (42, .int .i64 (ts.length : Int)), (43, .int .i64 (q : Int)), (18, .pointer (some ⟨g, 0, none⟩)), (78, .slice D (nz (vars q)).length d), (79, .int .i64 ((nz (vars q)).length : Int)), (80, .int .i64 (t : Int))])
            (fun t vt w' => t ≤ (vars q).length ∧ Ext w w' ∧ RB K (q + 1) { G := upd S.G q g, A := upd S.A q TA0, lo := upd S.lo q w8.heap.size, hi := upd S.hi q w9.heap.size, va := va', vat := vt } (fun v => Zs vars S.G q v ++ if v ∈ (vars q).take t then [itp g] else []) (((List.range q).map fun j => itp (S.G j)) ++ [itp g]) w') (fun t _ => (vars q).length - t) 0 S.vat sB
            ⟨Nat.zero_le _, hx14, ?_⟩ ?_
          . have e : (fun v => Zs vars S.G q v ++ if v ∈ (vars q).take 0 then [itp g] else []) = Zs vars S.G q := by funext v; simp
            rw [e]; exact H14
          clear H14 H13 ho14 hg14 hn14 hB14 hx14 H12 hB12 hI12 hI12' hT9 hTA
          rintro t vt w15 ⟨ht, hx15, H15⟩
          refine ρ ?_
          refine ci (fun h => ?_) (fun h => ?_)
          . have lt : t < (vars q).length := by have := oT h; omega
            clear h
            obtain ⟨vi, hvi⟩ : ∃ vi, vi = (vars q).getD t 0 := ⟨_, rfl⟩
            have hvm : vi ∈ vars q := by rw [hvi]; exact getD_mem' 0 _ lt
            have hvn : vi < n := hok.lt q lq vi hvm
            have hvK : vi < K.n := by rw [hKn]; exact hvn
            have hD15 := hdr.ext hx15
            refine ρ ?_
            refine ix t hD15 (by rw [hnl]; exact lt) ?_
            refine ρ ?_
            refine ld (hD15.cell (Xn lt)) ?_
            rw [← hvi]
            obtain ⟨own, hown⟩ : ∃ own, own = (vt vi).ownBlock := ⟨_, rfl⟩
            have hJ15 := H15.jb
            rw [hKJ, hKB, hKn] at hJ15
            have hat15 := H15.at_
            rw [hKn, hKB] at hat15
            have hov15 := H15.lists.own vi hvK
            have nJ : ¬ one own J := fun e => by
              have h1 : own = some J := e
              exact hJ15.ne_own hov15 rfl (by rw [← h1]; exact hown)
            have nA : ∀ ad, Ba = some ad → ¬ one own ad.block := fun ad e h' => by
              subst e
              exact Jqt hat15 hov15 rfl rfl (by have h1 : own = some ad.block := h'; rw [← h1]; exact hown.symm)
            refine ρ ?_
            refine drN (one own) 8 [(0, 0), (0, 1), (0, 2), (0, 3), (0, 4), (0, 5), (0, 6), (0, 7), (0, 8), (0, 9), (0, 10), (0, 11), (0, 12), (1, 13), (1, 14), (0, 15), (2, 16)] kr ?_
            have hxd15 : Ext w15 w15.drew := (Ext.refl w15).drew
            have H15d := H15.ext hxd15
            have hJ15d := hJ15.ext hxd15
            have hat15d := Jk hat15 hxd15
            have hcell : ((List.range n).map vt)[vi]? = some (vt vi) := by simp [hvn]
            refine ρn ?_
            refine nld (Jm (hJ15d.at (i := 1) rfl) nJ) ?_
            refine ρn ?_
            refine nld (Jm (hJ15d.at (i := 1) rfl) nJ) ?_
            refine ρn ?_
            refine nix vi (Rd.own hat15d) hvn ?_
            refine ρn ?_
            refine nld (fun w' hg => (Vv (Rd.own hat15d) hg (fun _ ad e => nA ad e)).cell hcell) ?_
            refine ρn ?_
            refine nop ?_
            refine bsl (Qxw (some ⟨g, 0, none⟩)) ?_
            intro w16 b4 hx16 hb4 hB4
            refine ρ ?_
            refine Js (GrN.ext hx16) ?_
            have H16 := H15d.ext hx16
            refine nop ?_
            have hcl := Qrk vars S.G q vi
            refine apb (base := K.base) EIt (H16.lists.own vi hvK) (hB4.rd (n := 1) rfl) (fun u hu => by rw [List.mem_singleton.1 hu]; rfl) ?_ ?_ (by rw [hKb]; exact ((hx15.trans hxd15).trans hx16).size) ?_
            . rw [List.length_append]; unfold maxLen; split <;> simp <;> omega
            . rw [List.length_append]; split <;> simp <;> omega
            intro v4 w17 ho17 hg17 hn17
            refine ρ ?_
            refine Js (GrN.by hg17 fun j ej => by rw [← hown] at ej; exact ej) ?_
            obtain ⟨c1, c2, c3, H18, hg18⟩ := H16.pushAt hvK ho17 hg17 hn17
            rw [hKB] at c1 c2 H18 hg18
            have at17 := Zj H16.at_ (H16.lists.own vi hvK) hg17 rfl
            rw [hKn, hKB] at at17
            refine ρn ?_
            refine nix vi (Rd.own at17) hvn ?_
            refine ρn ?_
            refine Xd ?_
            refine sto c1 c2 ?_ (hv := c3)
            have hx18 : Ext w (w17.setCell (adr Ba vi) v4) := hg18.old ((hx15.trans hxd15).trans hx16) (fun k hk => by
              rcases hk with hk | hk
              . exact hnw (H16.lists.own vi hvK) k hk
              . exact hnw H16.at_ k (by rw [hKB]; exact hk))
            refine ω5 ?_
            refine Gw ?_
            refine ρn ?_
            refine ρ ?_
            refine Jl (t + 1) (upd vt vi v4) sO ⟨om, hx18, ?_⟩ om
            have htk : (vars q).take (t + 1) = (vars q).take t ++ [vi] := by rw [Qy 0 lt, hvi]
            have hnt : vi ∉ (vars q).take t := fun hm => by
              have h1 : ((vars q).take (t + 1)).Nodup := (Qkf (hok.asc q lq)).sublist (List.take_sublist _ _)
              rw [htk, List.nodup_append] at h1
              exact h1.2.2 _ hm _ (List.mem_singleton.2 rfl) rfl
            have e : upd (fun v => Zs vars S.G q v ++ if v ∈ (vars q).take t then [itp g] else []) vi ((Zs vars S.G q vi ++ if vi ∈ (vars q).take t then [itp g] else []) ++ [.pointer (some ⟨g, 0, none⟩)]) = (fun v => Zs vars S.G q v ++ if v ∈ (vars q).take (t + 1) then [itp g] else []) := by
              funext v
              rw [htk]
              by_cases e : v = vi
              . subst e; rw [Jg, if_neg hnt, if_pos (by simp)]; simp [itp]
              . rw [Jy _ _ e]
                congr 1
                by_cases h1 : v ∈ (vars q).take t
                . rw [if_pos h1, if_pos (by simp [h1])]
                . rw [if_neg h1, if_neg (by simp [h1, e])]
            rw [← e]; exact H18
          . have ht' : t = (vars q).length := by have := oF h; omega
            subst ht'
            clear h
            refine ρ ?_
            refine Jl (q + 1) ⟨upd S.G q g, upd S.A q TA0, upd S.lo q w8.heap.size, upd S.hi q w9.heap.size, va', vt⟩ sO ⟨om, hx15, ?_⟩ om
            have e1 : (fun v => Zs vars S.G q v ++ if v ∈ (vars q).take (vars q).length then [itp g] else []) = Zs vars (upd S.G q g) (q + 1) := by
              funext v
              rw [Qrj, List.take_length, Jg, Qrl (G' := upd S.G q g) (fun j hj => (Jy _ _ om).symm)]
            have e2 : ((List.range q).map fun j => itp (S.G j)) ++ [itp g] = (List.range (q + 1)).map fun j => itp (upd S.G q g j) := by
              rw [List.range_succ, List.map_append, List.map_singleton, Jg]
              congr 1
              refine List.map_congr_left fun j hj => ?_
              have := List.mem_range.1 hj
              rw [Jy _ _ om]
            rw [e1, e2] at H15; exact H15
      . have hq' : q = ts.length := by have := oF h; omega
        subst hq'
        clear h
        subst hK
        obtain ⟨h0, hh0⟩ : ∃ h0, h0 = w4.heap.size := ⟨_, rfl⟩
        obtain ⟨NIx, hNIx⟩ : ∃ NIx : Nat → Prop, NIx = fun k => k = J ∨ (∃ i, i < ts.length ∧ k = S.G i) ∨ (Value.slice Ra n n).ownBlock = some k := ⟨_, rfl⟩
        obtain ⟨c, hc⟩ : ∃ c : JC, c = ⟨⟨S.G, S.A, fun i => (vars i).length, rs⟩, n, ts.length, vars, J, Ra, w.heap.size, .slice Ba n n, .func (.func fid) first cap, S.vat, fun k => bx' k ∨ h0 ≤ k ∨ NIx k⟩ := ⟨_, rfl⟩
        have hNI : ∀ k, c.NI k ↔ NIx k := fun k => by subst hc; subst hNIx; exact Iff.rfl
        have hNN : ∀ k, c.N k ↔ bx' k ∨ h0 ≤ k ∨ NIx k := fun k => by subst hc; exact Iff.rfl
        have hJlt : J < h0 := by rw [hh0]; exact H4.jb.lt
        have hrng : ∀ {e sz m' : Nat} {v : Value} {xs : List Value}, w4.ownsRow w.heap.size e sz v m' xs → ∀ k, v.ownBlock = some k → w.heap.size ≤ k ∧ k < h0 := fun ho k ek => by
          obtain ⟨_, _, _, _, hf⟩ := Jv ho
          rw [hh0]; exact hf k ek
        have hNIr : ∀ k, NIx k → w.heap.size ≤ k ∧ k < h0 := fun k hk => by
          subst hNIx
          rcases hk with hk | ⟨i, hi, hk⟩ | hk
          . subst hk; exact ⟨hbJ, hJlt⟩
          . subst hk
            have h1 := (H4.its i hi).lt
            have h2 := H4.jg i hi
            simp only at h2; omega
          . exact hrng H4.row k hk
        have hNr : ∀ k, k < h0 → ¬ bx' k → ¬ NIx k → ¬ c.N k := fun k h1 h2 h3 h4 => by
          rcases (hNN k).1 h4 with h5 | h5 | h5
          . exact h2 h5
          . omega
          . exact h3 h5
        have hbxo : ∀ k, w.heap.size ≤ k → ¬ bx' k := fun k hk hb => by have := hbx k hb; omega
        have offG : ∀ {e sz m' : Nat} {v : Value} {xs : List Value}, w4.ownsRow w.heap.size e sz v m' xs → Nat.beq e 281 = false → Nat.beq e 303 = false → Nat.beq 47 e = false → ∀ k, v.ownBlock = some k → ¬ c.N k := fun ho e1 e2 e3 k ek => by
          have h1 := hrng ho k ek
          refine hNr k h1.2 (hbxo k h1.1) fun h2 => ?_
          subst hNIx
          rcases h2 with h2 | ⟨i, hi, h2⟩ | h2
          . subst h2; exact H4.jb.ne_own ho e1 ek.symm
          . subst h2; exact (H4.its i hi).ne_own ho e2 ek.symm
          . exact Jqt H4.row ho e3 h2 ek
        have hIc : ∀ v, c.I v = (List.range ts.length).filter fun i => decide (v ∈ vars i) := fun v => by subst hc; rfl
        have hptr : ∀ v, Jqp c.F (c.I v) = Zs vars S.G ts.length v := fun v => by rw [hIc]; subst hc; rfl
        have hIl : ∀ v, (c.I v).length = (Zs vars S.G ts.length v).length := fun v => by rw [← hptr]; simp [Jqp]
        have hJok : JOk c := by
          have hinj : ∀ i j, i < ts.length → j < ts.length → S.G i = S.G j → i = j := fun i j hi hj e => by
            rcases Nat.lt_trichotomy i j with h1 | h1 | h1
            . have := H4.ginj i j h1 hj; omega
            . exact h1
            . have := H4.ginj j i h1 hi; omega
          have hgJ : ∀ i, i < ts.length → S.G i ≠ J := fun i hi e => by have := H4.jg i hi; simp only at this; omega
          have hd32 : ∀ i, i < ts.length → (vars i).length ≤ 32 := fun i hi => by have := Jwk (hok.asc i hi) (hok.lt i hi); omega
          subst hc
          exact ⟨hn32, hm32, hok.asc, hok.lt, fun i _ => rfl, hd32, hne3, hok.srt, hok.len, hok.big, hinj, hgJ, hok.cov, fun k hk => .inr (.inr ((hNI k).1 hk))⟩
        have hJenv : JEnv c w4 := by
          refine ⟨fun i hi => ?_, ⟨Ba, n, by subst hc; rfl, ?_⟩, fun v hv => ?_⟩
          . have him : i < ts.length := by subst hc; exact hi
            have h1 := H4.tri i him
            have h2 : Off c.N w4 (fun u => TriA u (S.A i) (vars i).length (rs i)) := h1.mono fun k hk h => by
              have h3 := (H4.jlo i him)
              have h4 := H4.iv i k him
              simp only at h3
              rcases (hNN k).1 h with h5 | h5 | h5
              . have := hbx k h5; exact .inl om
              . omega
              . subst hNIx
                rcases h5 with h5 | ⟨i', hi', h5⟩ | h5
                . exact h4 (.inl h5)
                . subst h5; exact H4.gi i' i hi' him
                . exact h4 (.inr (.inl h5))
            subst hc; exact h2
          . have h1 := Jqs H4.at_ (offG H4.at_ rfl rfl rfl)
            have h2 := h1.imp (Ψ := fun u => Rd u 1 Ba n ((List.range n).map S.vat)) fun u h => Rd.own h
            have : c.n = n ∧ c.vat = S.vat := by subst hc; exact ⟨rfl, rfl⟩
            rw [this.1, this.2]; exact h2
          . have hvn : v < n := by subst hc; exact hv
            have ho := H4.lists.own v hvn
            obtain ⟨B, cc, e1, e2, e3⟩ := Jv ho
            have : c.vat v = S.vat v := by subst hc; rfl
            refine ⟨B, cc, by rw [this, e1, hIl], ?_⟩
            rw [hptr, hIl]
            refine (Jqs ho (offG ho rfl rfl rfl)).imp fun u h => ?_
            rw [e1] at h; exact Rd.own h
        have hYC : YC c (fun l u => Y h0 l u ∧ h0 ≤ u.heap.size) (fun k => bx' k ∨ h0 ≤ k) := by
          refine ⟨fun k hk => (hNN k).2 (by rcases hk with h | h; · exact .inl h
                                            exact .inr (.inl h)), fun k hk h => ?_, fun l u u' h hg => ⟨hY.keep _ _ _ _ h.1 (hg.mono fun k _ hk => ?_), nL h.2 hg.size⟩, fid, first, cap, by subst hc; rfl, fun l u vr z h hr hl => ?_⟩
          . have h1 := hNIr k ((hNI k).1 h)
            rcases hk with h2 | h2
            . exact hbxo k h1.1 h2
            . omega
          . have h1 := hNIr k ((hNI k).1 hk)
            exact h1
          . refine (hcall h0 l u vr z h.2 h.1 hr hl).mono ?_
            rintro r u' ⟨h1, h2, h3⟩
            exact ⟨h1, ⟨h2, nL h.2 h3.size⟩, h3⟩
        have hcn : c.n = n := by subst hc; rfl
        have hcm : c.m = ts.length := by subst hc; rfl
        have hCfg : Cfg c (fun l u => Y h0 l u ∧ h0 ≤ u.heap.size) w4 (List.replicate n V0) (fun i => lv (c.vars i) 0) (fun _ => 0) (fun _ => 0) (fun _ _ => 0) (fun _ _ => 0) [] := by
          refine ⟨hJenv, fun i hi => ⟨0, ?_⟩, ?_, by rw [hcn]; simp, ⟨0, ?_⟩, by rw [hh0]; exact hY0 w4 hx4, by rw [hh0]; exact Nat.le_refl _⟩
          . simp only [Jkb]
            rw [hcm] at hi
            have := H4.its i hi
            subst hc; exact this
          . have := H4.row
            subst hc; exact this
          . have := H4.jb
            subst hc; exact this
        have hAns : ∀ x, c.Ans x ↔ Zk n ts.length vars rs x := fun x => by subst hc; exact Iff.rfl
        have hPth : Pth c 0 (List.replicate n V0) (fun _ => 0) (fun _ => 0) := by
          refine ⟨fun i hi => ?_, fun i hi h => ?_⟩
          . rw [Jkb, Yd, if_pos rfl, List.take_zero]
          . rw [Jkb] at h; omega
        have hcJ : c.J = J := by subst hc; rfl
        refine ρ ?_
        have hext := Qnp hJok hYC (fun l h1 h2 => hcap l h1 fun x hx => (hAns x).1 (h2 x hx)) n 0 (List.replicate n V0) (fun _ => 0) (fun _ => 0) (fun _ _ => 0) (fun _ _ => 0) [] w4 (by rw [hcn]; omega) hCfg hPth List.Pairwise.nil (fun x hx => by cases hx) (fun x hx => by cases hx)
        rw [hcJ] at hext
        refine cl hext ?_
        rintro u w5 ⟨rfl, hg5, z5, f5, h5, l5, H5, _, _, hlt5, hl5⟩
        have hall : w5.ownsRow w.heap.size 288 1 S.va ts.length ((List.range ts.length).map fun j => itp (S.G j)) := by
          have h1 := H4.all
          rw [List.length_map, List.length_range] at h1
          exact Jr h1 hg5 (offG H4.all rfl rfl rfl)
        obtain ⟨VA, vc, eva, _, _⟩ := Jv hall
        rw [eva] at hall ⊢
        have hoff5 : Off c.N w5 (fun u => Rd u 1 VA ts.length ((List.range ts.length).map fun j => itp (S.G j))) := by
          refine (Jqs hall fun g eg => ?_).imp fun u h => Rd.own h
          exact offG H4.all rfl rfl rfl g (by rw [eva]; exact eg)
        refine ρ ?_
        refine Qd (fun (i : Nat) => [(8, .pointer (some ⟨J, 0, none⟩)), (104, .slice VA ts.length vc), (105, .int .i64 (ts.length : Int)), (106, .int .i64 (i : Int))])
          (fun i w' => i ≤ ts.length ∧ GrN c.N w5 w' ∧ Cfg c (fun l u => Y h0 l u ∧ h0 ≤ u.heap.size) w' z5 (fun i => lv (c.vars i) 0) (fun _ => 0) (fun _ => 0) f5 h5 l5) (fun i => ts.length - i) 0 sB ⟨Nat.zero_le _, GrN.refl _ _, H5⟩ ?_
        rintro i w6 ⟨hi, hg6, H6⟩
        refine ρ ?_
        refine ci (fun h => ?_) (fun h => ?_)
        . have li : i < ts.length := by have := oT h; omega
          clear h
          have hR6 := hoff5 w6 hg6
          refine ρ ?_
          refine ix i hR6 li ?_
          refine ρ ?_
          refine ld (hR6.cell (show ((List.range ts.length).map fun j => itp (S.G j))[i]? = some (.pointer (some ⟨S.G i, 0, none⟩)) by simp [li, itp])) ?_
          obtain ⟨sj, hJ6⟩ := H6.jb
          rw [hcJ] at hJ6
          refine ρ ?_
          refine drN (fun _ => False) 10 [(0, 0), (0, 1), (0, 2), (0, 3), (0, 4), (1, 5), (0, 6), (0, 7), (0, 8), (2, 9)] kr ?_
          have hxd6 : Ext w6 w6.drew := (Ext.refl w6).drew
          have H6d := H6.ext hYC hxd6
          have hJ6d := hJ6.ext hxd6
          obtain ⟨si, hI6⟩ := H6d.its i (by rw [hcm]; exact li)
          have hGi : c.F.G i = S.G i := by subst hc; rfl
          rw [hGi] at hI6
          refine ρn ?_
          refine nld (Jm (hJ6d.at (i := 2) rfl) (fun e => e)) ?_
          refine ρn ?_
          refine nop ?_
          refine cl (Qlt hI6) ?_
          rintro u w7 ⟨rfl, rfl⟩
          refine ρ ?_
          refine Js (GrN.refl _ _) ?_
          refine ρn ?_
          refine Xd ?_
          refine sto (p := ⟨J, 2, none⟩) (hJ6d.cell 2) (hJ6d.frozen _) ?_
          rw [← hcJ] at hJ6d
          obtain ⟨H8, hg8⟩ := H6d.steps hJok hYC hJ6d (IntKind.i64.wrap (sj + si))
          rw [hcJ] at H8 hg8
          refine ω5 ?_
          refine Gw ?_
          refine ρn ?_
          refine ρ ?_
          exact Qw (i + 1) sO ⟨om, (hg6.trans (GrN.ext hxd6)).trans (hg8.mono fun k _ hk => hJok.sub k hk), H8⟩ om
        . clear h
          obtain ⟨sj, hJ6⟩ := H6.jb
          rw [hcJ] at hJ6
          refine ρ ?_
          refine ld (hJ6.at (i := 2) rfl) ?_
          refine ρ ?_
          refine Yk ⟨GrN.cut hx4 (hg5.trans hg6) fun k hk h => ?_, sj, h0, l5, rfl, H6.y.2, H6.y.1, hlt5, fun x => ?_⟩
          . rcases (hNN k).1 h with h1 | h1 | h1
            . exact h1
            . have := hx4.size; omega
            . have := (hNIr k h1).1; omega
          . rw [hl5, ← hAns x]
            constructor
            . rintro (h1 | h1)
              . cases h1
              . exact h1.1
            . intro h1; exact .inr ⟨h1, rfl⟩
  . intro rest
    refine gtwo 1 3 kr rfl rfl rfl ?_ ?_
    . refine ρ ?_
      refine mkn EV n om (by unfold maxLen; omega) ?_
      intro w2 A2 hx2 ho2 _
      refine Jh (Ks hx2 ?_)
      refine Zo (fuel' := 3) [(1, 3)] #[true, true, true, true, true, false, false, false] kr kr rfl ?_
      refine Up ?_
      refine mkn EIts n om (by unfold maxLen; omega) ?_
      intro w3 A3 hx3 ho3 _
      refine Jh (Un hx3 ?_)
      refine Vx (Zu ?_)
      refine rest (A2, A3) _ _ ⟨hx2.trans hx3, ?_, ?_⟩ sB
      . rw [Zt, List.length_replicate, ← Jcz]; exact Jk ho2 hx3
      . rw [Jht] at ho3; exact Jvs ho3 hx2.size
    . refine ρ ?_
      refine mkn EIts n om (by unfold maxLen; omega) ?_
      intro w2 A2 hx2 ho2 _
      refine Jh (Ks hx2 ?_)
      refine Zo (fuel' := 3) [(1, 1)] #[true, true, true, true, true, false, false, false] kr kr rfl ?_
      refine Up ?_
      refine mkn EV n om (by unfold maxLen; omega) ?_
      intro w3 A3 hx3 ho3 _
      refine Jh (Un hx3 ?_)
      refine Vx (Zu ?_)
      refine rest (A3, A2) _ _ ⟨hx2.trans hx3, ?_, ?_⟩ sB
      . rw [Zt, List.length_replicate, ← Jcz]; exact Jvs ho3 hx2.size
      . rw [Jht] at ho2; exact Jk ho2 hx3
end Go.Proofs.YtebcagekopgdhaaGreatDoor
namespace Go.Wk
open Go.RowKit
variable {d n t t2 ty:Nat}
theorem fnl{P:Program}{al:AL}{w:World}{Q:Exit->Act->World->Prop}{ops:Array Oper}{rest:List Oper}{pos:String}{aft:Array Edge}{tt:TT}[h:Tab P tt]{x:Operand}{k:TK}{ps rs:Array TypeId}{va:Bool}{f:Fn}{first cap:Array Value}(kk:WL P n ops Q rest ((d,.bool false)::al) w)(ht:tk tt t=some k:=by rfl)(hk:k.desc=.func ps rs va:=by rfl)(hx:ev al x=some (.func f first cap):=by rfl)(hd:Nat.blt d n=true:=by rfl):
  WL P n ops Q (⟨some d,.binOp .eql t x (.const .nilFunc) t2,ty,pos,aft,none⟩::rest) al w :=
 wop hd (λa u=>by
  have o:=Vm h.ok ht hk rfl;have G:a.eval (.const .nilFunc)=.nilFunc:=rfl;have C:∀ d:Nat,(Op.equalIn (d+1) t (.func f first cap) .nilFunc).run P w=.ok false w:=λd=>by simp [Op.equalIn,run_underlying o]
  simp [execOp,u.ev hx,G,eqGuard,binOp,Op.equal,Op.maxDepth,C 9999]) kk
end Go.Wk
namespace Go.Proofs.YtebcagekopgdhaaGreatDoor
open Go.RowKit Pl Go.Wk
attribute [local irreducible] WC WL QX WD WDB WP WN WG
variable {b ca n s:Nat}{Y:Nat->List Row->World->Prop}{yv:Value}
structure YZ(s:Nat)(yv:Value)(bx:Nat->Prop)(Y:Nat->List Row->World->Prop): Prop where
 keep:∀ base l w w',Y base l w->GrN (λk=>s<=k/\k<base) w w'->Y base l w'
 call:∃ fid first cap,yv=.func (.func fid) first cap/\∀ base l w w1 vr z,base<=w.heap.size->Y base l w->Ext w w1->RowX w1 (λk=>k<w.heap.size) vr z->l.length<65536->Ret Tryz.prog fid (first.toList++[vr]++cap.toList) w1 λr w'=>r=.bool true/\Y base (l++[z]) w'/\GrN (λk=>bx k∨base<=k) w1 w'
theorem Qpc{bx:Nat->Prop}(hY:YZ s yv bx Y)(hb:s<=b)(hbx:∀ k,bx k->k<s):
  YS (b+1) (.func (.func 188) #[] #[.pointer (some ⟨b,0,none⟩)]) bx (λbase l w=>(Y base l w/\Blk w b 193 [yv])/\b<base):=by
 obtain ⟨a6,first,a7,a1,G⟩:=hY.call;subst a1;refine ⟨λbase l w w' h U=>⟨⟨hY.keep _ _ _ _ h.1.1 (U.mono λk _ hk=>⟨om,hk.2⟩),Jc h.1.2 U (λhk=>om)⟩,h.2⟩,_,_,_,rfl,λbase l w vr z J h hr hl=>?_⟩;obtain ⟨⟨hy,hB⟩,a4⟩:=h;have Z:¬ (bx b∨base<=b):=by
  rintro (e|e)
  .have:=hbx b e;omega
  .omega
 refine Jz Tryz.func188 Tryz.ntmps188 rfl kr rfl ?_;refine ρ ?_;refine drN (λk=>bx k∨base<=k) 8 [(0,0),(0,1),(1,2),(1,3),(0,4)] kr ?_;have o:Ext w w.drew:=(Ext.refl w).drew;have a5:=hB.ext o;have a2:=hY.keep _ _ _ _ hy (GrN.ext o);refine ρn ?_;refine nld (Jm (a5.at (i:=0) rfl) Z) ?_;refine ρn ?_;refine nop ?_;refine cl (Jxt (hr.ext o) (λk=>k<w.drew.heap.size) (λk hk=>hk)) ?_;rintro u w1 ⟨hu,C⟩;refine ρ ?_;refine Js (GrN.ext C) ?_;refine nop ?_;refine clv (G base l w.drew w1 u z J a2 C hu hl) ?_;rintro r w2 ⟨rfl,a3,O⟩;refine ρ ?_;refine Js O ?_;refine ρn ?_;refine ρ ?_;have U:GrN (λk=>bx k∨base<=k) w w2:=(GrN.ext (o.trans C)).trans O;exact Jj ⟨rfl,⟨⟨a3,Jc hB U Z⟩,a4⟩,U⟩
theorem Qpb{w:World}{ts:List TA}{Aa:Option Addr}{vars:Nat->List Nat}{rs:Nat->List Row}{bx':Nat->Prop}(hok:RunOk n ts vars rs)(hR:Rd w 3 Aa ts.length (atC ts))(hle:ts.length<=ca)(hat:∀ p∈ts,AtV w p.1 p.2)(hchk:Jwc n (ts.map (·.2)))(hbx:∀ k,bx' k->k<w.heap.size)(hY:YZ w.heap.size yv bx' Y)(hY0:∀ w',Ext w w'->Y w'.heap.size [] w')(hcap:∀ l:List Row,Lt [] l->(∀ x∈l,Zk n ts.length vars rs x)->l.length<=65536):
  Ret Tryz.prog 165 [.int .i64 (n:Int),yv,.slice Aa ts.length ca] w λu w'=>GrN bx' w w'/\∃ st base l,u=.tuple #[.int .i64 st,.int .i64 0]/\w.heap.size<=base/\base<=w'.heap.size/\Y base l w'/\Lt [] l/\∀ x,x∈l↔Zk n ts.length vars rs x:=by
 have a5:=hok.m32;obtain ⟨a3,first,a4,a1,_⟩:=hY.call;subst a1;refine Jz Tryz.func165 Tryz.ntmps165 rfl kr rfl ?_;refine ρ ?_;refine bx ?_;intro w1 b C hb hB;refine ρ ?_;refine cl (Jff (n:=(n:Int)) (ats:=ts.map (·.2)) ⟨ts,Aa,ca,rfl,rfl,hle,om,hR.ext C,λp hp=>(hat p hp).ext C⟩) ?_
 rintro u w2 ⟨O,e,rfl,he⟩;have e0:=he.2 hchk;subst e0;have J:=hB.ext O;refine ρ ?_;refine ld (J.at (i:=0) rfl) ?_;refine ρ ?_;refine fnl ?_;have o:=C.trans O;have a6:b+1<=w2.heap.size:=J.lt;refine ρ ?_;refine cl (Qch (bx':=bx') (Y:=λbase l w=>(Y base l w/\Blk w b 193 [.func (.func a3) first a4])/\b<base) hok (hR.ext o) (λp hp=>(hat p hp).ext o) (λk U=>nM (hbx k U) o.size) ?_ (λw' G=>⟨⟨hY0 w' (o.trans G),J.ext G⟩,by have:=G.size;omega⟩) hcap) ?_
 .have Z:=Qpc hY hb hbx;exact ⟨λbase l u u' h hg=>Z.keep base l u u' h (hg.mono λk _ U=>⟨om,U.2⟩),Z.call⟩
 rintro u w3 ⟨a2,st,base,l,rfl,Z,⟨⟨h2,_⟩,h3⟩,h4,h5⟩;refine ρ ?_;exact Yk ⟨GrN.cut o a2 λk _ U=>U,st,base,l,rfl,om,Z,h2,h4,h5⟩
end Go.Proofs.YtebcagekopgdhaaGreatDoor
namespace Go.Wk
open Go.RowKit
variable {e:Act}{parts:Array (Nat×Operand)}{pw:Array (Nat×Value)}{a b:Int}{k1 k2:IntKind}{vs:List Value}{i s t v:Nat}{x y:Operand}{yt:TypeId}
section
variable {N:Nat->Prop} {P:Program} {n:Nat} {al:AL} {w:World} {Q:Exit->Act->World->Prop} {ops:Array Oper} {rest:List Oper} {drest:List (Nat×Oper)}
variable {d ty:Nat} {pos:String} {aft:Array Edge}
theorem Jnz{t:TypeId}(hx:ev al x=some (.int k1 a))(hy:ev al y=some (.int k2 b))(h0:0<=b)(he:Fr n al e)(dst:Option Nat)(w:World):
  (execOp e.eval ⟨dst,.binOp .shr t x y yt,ty,pos,aft,none⟩).run P w=.ok (.value (.int k1 (a.fdiv (2^(min b.toNat k1.bits))))) w:=by
 have o:¬ b<0:=om
 simp [execOp,he.ev hx,he.ev hy,eqGuard,binOp,Op.shift,o]
theorem Jzp{t:TypeId}(hx:ev al x=some (.int k1 a))(hy:ev al y=some (.int k2 b))(h0:0<=b)(he:Fr n al e)(dst:Option Nat)(w:World):
  (execOp e.eval ⟨dst,.binOp .shl t x y yt,ty,pos,aft,none⟩).run P w=.ok (.value (.int k1 (k1.wrap (a*2^(min b.toNat k1.bits))))) w:=by
 have o:¬ b<0:=om
 simp [execOp,he.ev hx,he.ev hy,eqGuard,binOp,Op.shift,o]
theorem Jns(s v:Nat)(hv:v<=32): ((s:Int)).fdiv (2^(min ((v:Nat):Int).toNat 32))=((s / 2^v:Nat):Int):=by
 rw [Int.toNat_natCast,Nat.min_eq_left hv,Int.fdiv_eq_ediv_of_nonneg _ (by exact Int.pow_nonneg (by decide))];have:((2:Int)^v)=((2^v:Nat):Int):=by simp
 rw [this];rfl
theorem Gt(hv:v<32): 2^v<4294967296:=nM (Nat.pow_lt_pow_right (by decide:1<2) hv) (by decide)
theorem Jvd(hv:v<32): IntKind.u32.wrap (1*2^(min ((v:Nat):Int).toNat 32))=((2^v:Nat):Int):=by
 have h:=Gt hv;rw [Int.toNat_natCast,Nat.min_eq_left om,Int.one_mul];have:((2:Int)^v)=((2^v:Nat):Int):=by simp
 rw [this,IntKind.wrap_u32];generalize 2^v=p at *
 omega
theorem Km{t:TypeId}(hv:v<=32)(kk:WL P n ops Q rest ((d,.int .u32 ((s / 2^v:Nat):Int))::al) w)(hx:ev al x=some (.int .u32 (s:Int)):=by rfl)(hy:ev al y=some (.int .i64 (v:Int)):=by rfl)(hd:Nat.blt d n=true:=by rfl):
  WL P n ops Q (⟨some d,.binOp .shr t x y yt,ty,pos,aft,none⟩::rest) al w:=by
 rw [<-Jns s v hv]at kk;exact wop hd (λa o=>Jnz hx hy om o (some d) w) kk
theorem sl32{t:TypeId}(hv:v<32)(kk:WL P n ops Q rest ((d,.int .u32 ((2^v:Nat):Int))::al) w)(hy:ev al y=some (.int .i64 (v:Int)):=by rfl)(hd:Nat.blt d n=true:=by rfl):
  WL P n ops Q (⟨some d,.binOp .shl t (.const (.int .u32 1)) y yt,ty,pos,aft,none⟩::rest) al w:=by
 rw [<-Jvd hv]at kk;exact wop hd (λa o=>Jzp (x:=.const (.int .u32 1)) rfl hy om o (some d) w) kk
theorem dsl32{t:TypeId}(hv:v<32)(kk:WD P n ops Q drest ((d,.int .u32 ((2^v:Nat):Int))::al) w)(hy:ev al y=some (.int .i64 (v:Int)):=by rfl)(hd:Nat.blt d n=true:=by rfl):
  WD P n ops Q ((0,⟨some d,.binOp .shl t (.const (.int .u32 1)) y yt,ty,pos,aft,none⟩)::drest) al w:=by
 rw [<-Jvd hv]at kk;exact dy (λw' _ a o=>Jzp (x:=.const (.int .u32 1)) rfl hy om o (some d) w') hd kk
theorem Jdn{t:TypeId}(hv:v<32)(kk:WN N P n ops Q drest ((d,.int .u32 ((2^v:Nat):Int))::al) w)(hy:ev al y=some (.int .i64 (v:Int)):=by rfl)(hd:Nat.blt d n=true:=by rfl):
  WN N P n ops Q ((0,⟨some d,.binOp .shl t (.const (.int .u32 1)) y yt,ty,pos,aft,none⟩)::drest) al w:=by
 rw [<-Jvd hv]at kk;exact ny_ (λw' _ a o=>Jzp (x:=.const (.int .u32 1)) rfl hy om o (some d) w') hd kk
end
section
variable {N:Nat->Prop} {P:Program} {n:Nat} {al:AL} {w:World} {Q:Exit->Act->World->Prop} {ops:Array Oper} {drest:List (Nat×Oper)}
variable {d ty:Nat} {pos:String} {aft:Array Edge}
theorem Jpg{v:Value}(hb:∀ w,(Instr.build t pw).run P w=.ok v w)(hx:evs al (parts.toList.map (·.2))=some vs)(hp:((parts.toList.map (·.1)).zip vs).toArray=pw){a:Act}(ha:Fr n al a)(dst:Option Nat)(w:World):
  (execOp a.eval ⟨dst,.build t parts,ty,pos,aft,none⟩).run P w=.ok (.value v) w:=by
 subst hp;have u:=ha.evs hx;have o:(parts.map fun (i,x)=>(i,a.eval x))=((parts.toList.map (·.1)).zip vs).toArray:=by
  rw [<-u];apply Array.ext'
  simp only [Array.toList_map];induction parts.toList with
  | nil=>rfl
  | cons x r ih=>simpa using ih
 simp only [execOp,o,Sem.run_bind,hb w];rfl
theorem Jjc{v:Value}(hb:∀ w,(Instr.build t pw).run P w=.ok v w)(kk:WN N P n ops Q drest ((d,v)::al) w)(hx:evs al (parts.toList.map (·.2))=some vs:=by rfl)(hp:((parts.toList.map (·.1)).zip vs).toArray=pw:=by rfl)(hd:Nat.blt d n=true:=by rfl): WN N P n ops Q ((0,⟨some d,.build t parts,ty,pos,aft,none⟩)::drest) al w :=
 ny_ (λw' _ a o=>Jpg hb hx hp o (some d) w') hd kk
theorem dbld{v:Value}(hb:∀ w,(Instr.build t pw).run P w=.ok v w)(kk:WD P n ops Q drest ((d,v)::al) w)(hx:evs al (parts.toList.map (·.2))=some vs:=by rfl)(hp:((parts.toList.map (·.1)).zip vs).toArray=pw:=by rfl)(hd:Nat.blt d n=true:=by rfl): WD P n ops Q ((0,⟨some d,.build t parts,ty,pos,aft,none⟩)::drest) al w :=
 dy (λw' _ a o=>Jpg hb hx hp o (some d) w') hd kk
end
theorem Ua(hs:s<4294967296): (bits .and .u32 ((s / 2^v:Nat):Int) 1 == 1)=s.testBit v:=by
 have C:s / 2^v<4294967296:=Nat.lt_of_le_of_lt (Nat.div_le_self _ _) hs;have o:=u32_and_nat (s / 2^v) 1 C om;have u:((1:Nat):Int)=1:=rfl;rw [u]at o;rw [o,Nat.and_one_is_mod,Nat.testBit_eq_decide_div_mod_eq];by_cases h:s / 2^v % 2=1
 .rw [h,decide_eq_true rfl];rfl
 .rw [decide_eq_false h,Jzb om]
theorem Qzl(hs:s<4294967296): (bits .and .u32 ((s / 2^v:Nat):Int) 1 == 0) = !s.testBit v:=by
 have C:s / 2^v<4294967296:=Nat.lt_of_le_of_lt (Nat.div_le_self _ _) hs;have o:=u32_and_nat (s / 2^v) 1 C om;have u:((1:Nat):Int)=1:=rfl;rw [u]at o;rw [o,Nat.and_one_is_mod,Nat.testBit_eq_decide_div_mod_eq];by_cases h:s / 2^v % 2=1
 .rw [h,decide_eq_true rfl];rfl
 .rw [decide_eq_false h,Qzm om];rfl
def Gg(s t:Nat): Nat:=s &&& (4294967295-t)
theorem Qkh(hs:s<4294967296): Gg s t<4294967296:=by
 unfold Gg;exact Nat.lt_of_le_of_lt Nat.and_le_left hs
theorem Jhm(hs:s<4294967296)(ht:t<4294967296): (Gg s t).testBit i=(s.testBit i && !t.testBit i):=by
 unfold Gg;have e:4294967295-t=2^32-(t+1):=om
 rw [Nat.testBit_and,e,Nat.testBit_two_pow_sub_succ om];by_cases hi:i<32
 .rw [decide_eq_true hi];simp
 .have:s.testBit i=false:=Nat.testBit_lt_two_pow (nM hs (Nat.pow_le_pow_right (n:=2) (by decide) (show 32<=i by omega)));rw [this];rfl
theorem Jhc(hs:s<4294967296)(ht:t<4294967296): bits .andNot .u32 (s:Int) (t:Int)=((Gg s t:Nat):Int):=u32_andNot_nat s t hs ht
theorem Jjq(hs:s<4294967296)(ht:t<4294967296): bits .or .u32 (s:Int) (t:Int)=((s ||| t:Nat):Int):=u32_or_nat s t hs ht
theorem Jvt(hs:s<4294967296)(ht:t<4294967296): s ||| t<4294967296:=Nat.or_lt_two_pow (n:=32) hs ht
end Go.Wk
namespace Go.Proofs.YtebcagekopgdhaaGreatDoor
open Go.RowKit Pl Go.Wk
attribute [local irreducible] WC WL QX WD WDB WP WN WG
variable {cs vars:List Nat}{b base c d k n s ty z:Nat}{w:World}
def Ql(vars:List Nat)(s:Nat): List Nat:=(List.range vars.length).filter λi=>s.testBit (vars.getD i 0)
def inS(vars:List Nat)(s:Nat): List Nat:=vars.filter λv=>s.testBit v
theorem Jxr(h:c∈Ql vars s): c<vars.length:=List.mem_range.1 (List.mem_filter.1 h).1
theorem Jpw(h:k<=n): (List.range n).take k=List.range k:=by
 apply List.ext_getElem?
 intro i;rw [List.getElem?_take];by_cases hi:i<k
 .rw [if_pos hi,List.getElem?_range om,List.getElem?_range hi]
 .rw [if_neg hi,List.getElem?_eq_none (by simp;omega)]
def Xp(vars:List Nat)(s k:Nat): List Nat:=(List.range k).filter λi=>s.testBit (vars.getD i 0)
theorem Ky(vars:List Nat)(s k:Nat): Xp vars s (k+1)=Xp vars s k++if s.testBit (vars.getD k 0) then [k] else []:=by
 unfold Xp;rw [List.range_succ,List.filter_append];congr 1
 by_cases h:s.testBit (vars.getD k 0)=true
 .rw [if_pos h];simp only [List.filter_cons,List.filter_nil,h,if_true]
 .rw [if_neg h];simp only [List.filter_cons,List.filter_nil,h];rfl
theorem Jkj(h:k<vars.length): inS (vars.take (k+1)) s=inS (vars.take k) s++if s.testBit (vars.getD k 0) then [vars.getD k 0] else []:=by
 unfold inS;rw [Qy 0 h,List.filter_append];congr 1
 by_cases h:s.testBit (vars.getD k 0)=true
 .rw [if_pos h,List.filter_cons_of_pos h];rfl
 .rw [if_neg h,List.filter_cons_of_neg h];rfl
theorem Jkx(vars:List Nat)(s:Nat): ∀ k,k<=vars.length->(Xp vars s k).length=(inS (vars.take k) s).length
 | 0,_=>by simp [Xp,inS]
 | k+1,h=>by
  rw [Ky,Jkj om,List.length_append,List.length_append,Jkx vars s k om];split<;>rfl
theorem Jrm(vars:List Nat)(s:Nat)(z:Row): ∀ k,k<=vars.length->pmR (Xp vars s k) (pmR vars z)=pmR (inS (vars.take k) s) z
 | 0,_=>by simp [Xp,inS,pmR]
 | k+1,h=>by
  have ih:=Jrm vars s z k om;rw [Ky,Jkj om];unfold pmR at *;rw [List.map_append,List.map_append,ih];congr 1
  split
  .simp only [List.map_cons,List.map_nil];congr 1
   exact Jzt om
  .rfl
theorem bs1Int''(z:Int)(w:World): (Instr.buildSlice 44 1 #[(0,.int .i64 z)]).run Tryz.prog w=.ok (.slice (some ⟨w.heap.size,0,none⟩) 1 1) (w.alloc (.cells [.int .i64 z].toArray 3)):=kr
theorem Qgj(a b:List Nat): nz (a++b)=nz a++nz b:=by simp [nz]
theorem Qmf(a b:List Int): Jt (a++b)=Jt a++Jt b:=by simp [Jt]
abbrev Xu(w:World)(base:Nat)(v:Value)(cs:List Nat): Prop:=w.ownsRow base 3 1 v cs.length (Jt (nz cs))
theorem apI{al:AL}{Q:Exit->Act->World->Prop}{ops:Array Oper}{rest:List Oper}{pos:String}{aft:Array Edge}{x y:Operand}{v:Value}(ho:Xu w base v cs)(hb:Blk w b 3 [.int .i64 (z:Int)])(hm:cs.length<=1100000)(hbase:base<=w.heap.size)(kk:∀ v' w',Xu w' base v' (cs++[z])->w.grownBy w' v.ownBlock->(∀ g,v'.ownBlock=some g->v.ownBlock=some g∨w.heap.size<=g)->WL Tryz.prog n ops Q rest ((d,v')::al) w')(hx:ev al x=some v:=by rfl)(hy:ev al y=some (.slice (some ⟨b,0,none⟩) 1 1):=by rfl)(hd:Nat.blt d n=true:=by rfl):
  WL Tryz.prog n ops Q (⟨some d,.call { callee:=.builtin .append,args:=#[x,y],argTypes:=#[44,44] },ty,pos,aft,none⟩::rest) al w:=by
 refine apb (base:=base) EI ho (hb.rd (n:=1) rfl) (λu C=>by rw [List.mem_singleton.1 C];rfl) (by unfold maxLen;omega) om hbase ?_ hx hy hd;intro v' w' o G hn;refine kk v' w' ?_ G hn;rw [Xu,List.length_append,Qgj,Qmf];exact o
set_option maxRecDepth 100000 in
set_option maxHeartbeats 1000000 in
theorem Xjk{t : V3}{rs : List Row}(hA : AtV w t ⟨nz vars, vars.length, rs⟩)(hs : s < 4294967296)(hasc : Qo vars)(hlt : ∀ v ∈ vars, v < 32)(hlen : ∀ r ∈ rs, r.length = vars.length)(hbig : rs.length ≤ 65536):
    Ret Tryz.prog 164 [.agg t.cells.toArray, .int .u32 (s : Int)] w fun u w' => Ext w w' ∧ ∃ t' : V3, u = .tuple #[.agg t'.cells.toArray, .int .i64 0] ∧ ∃ m, Off (fun k => k < w.heap.size) w' (fun x => AtV x t' ⟨nz (inS vars s), (inS vars s).length, m⟩) ∧ m.length ≤ 65536 ∧ (∀ x ∈ m, x ∈ rs.map (pmR (Ql vars s))) ∧
      ((rs.length ≤ 1000 ∨ Srt [] (rs.map (pmR (Ql vars s)))) → Zz [] (rs.map (pmR (Ql vars s))) m) := by
  obtain ⟨t1, t2, t3⟩ := t
  obtain ⟨⟨D, d, e1, hd, hdm, hdr⟩, e2, hrows⟩ := id hA
  simp only at e1 e2
  subst e1; subst e2
  obtain ⟨ps, G, gc, _, hv3, _⟩ := id hrows
  simp only at hv3
  subst hv3
  have hnl := Qq vars
  have hl32 := Jwk hasc hlt
  refine Jz Tryz.func164 Tryz.ntmps164 rfl kr rfl ?_
  refine ρ ?_
  refine bx ?_
  intro w1 b hx1 hb hB
  refine ρ ?_
  refine alc Yj ?_
  intro w2 br hx2 hbr hBr
  have hB2 := hB.ext hx2
  have hxw2 := hx1.trans hx2
  have hdr' : Rd w 1 D (nz vars).length (Jt (nz vars)) := hdr
  clear hdr hd hdm
  have mono : ∀ i, 1 ≤ i → i < vars.length → vars.getD (i - 1) 0 < vars.getD i 0 := fun i h1 h2 => by
    have := List.pairwise_iff_getElem.1 hasc (i - 1) i om h2 om
    simpa [List.getD, gE h2, gE (show i - 1 < vars.length by omega)] using this
  have hv32 : ∀ i, i < vars.length → vars.getD i 0 < 32 := fun i hi => hlt _ (getD_mem' 0 _ hi)
  refine ρ ?_
  refine Qd (fun (i : Nat) => [(1, .int .u32 (s : Int)), (2, .pointer (some ⟨b, 0, none⟩)), (4, .pointer (some ⟨br, 0, none⟩)), (6, .int .i64 (i : Int))])
    (fun i w' => 1 ≤ i ∧ i ≤ 1000 ∧ Ext w2 w') (fun i => 1000 - i) 1 sB ⟨Nat.le_refl _, by omega, Ext.refl _⟩ ?_
  rintro i w3 ⟨hi1, hi2, hx3⟩
  have hB3 := hB2.ext hx3
  refine ρ ?_
  refine ld (hB3.at (i := 0) rfl) ?_
  refine ρ ?_
  refine ci (fun h => ?_) (fun h => ?_)
  . have li : i < vars.length := by have := oT h; omega
    clear h
    have hxd : Ext w3 w3.drew := (Ext.refl w3).drew
    have hBd := hB3.ext hxd
    have hDd := hdr'.ext ((hxw2.trans hx3).trans hxd)
    refine ρ ?_
    refine dr [(0, 0), (0, 1), (0, 2), (0, 3), (0, 4), (0, 5), (0, 6), (0, 7), (0, 8), (0, 9), (0, 10), (0, 11)] kr ?_
    refine ρd ?_
    refine dld (hBd.at (i := 0) rfl) ?_
    refine ρd ?_
    refine dix (i - 1) hDd om ?_
    refine ρd ?_
    refine dld (hDd.cell (Xn (show i - 1 < vars.length by omega))) ?_
    refine ρd ?_
    refine dld (hBd.at (i := 0) rfl) ?_
    refine ρd ?_
    refine dix i hDd om ?_
    refine ρd ?_
    refine dld (hDd.cell (Xn li)) ?_
    refine ρd ?_
    refine ρ ?_
    refine cf ?_ ?_
    . exact dF (by have := mono i hi1 li; omega)
    refine ρ ?_
    exact Qw (i + 1) sO ⟨om, by omega, hx3.trans hxd⟩ om
  clear h
  refine ρ ?_
  refine ld (hB3.at (i := 0) rfl) ?_
  refine ρ ?_
  refine Qd (fun (i : Nat) => [(1, .int .u32 (s : Int)), (2, .pointer (some ⟨b, 0, none⟩)), (4, .pointer (some ⟨br, 0, none⟩)), (36, .slice D (nz vars).length d), (37, .int .i64 ((nz vars).length : Int)), (38, .int .i64 (i : Int))])
    (fun i w' => i ≤ vars.length ∧ Ext w3 w') (fun i => vars.length - i) 0 sB ⟨Nat.zero_le _, Ext.refl _⟩ ?_
  rintro i w4 ⟨hi, hx4⟩
  have hxw4 := (hxw2.trans hx3).trans hx4
  have hB4 := hB3.ext hx4
  refine ρ ?_
  refine ci (fun h => ?_) (fun h => ?_)
  . have li : i < vars.length := by have := oT h; omega
    clear h
    have hD4 := hdr'.ext hxw4
    refine ρ ?_
    refine ix i hD4 om ?_
    refine ρ ?_
    refine ld (hD4.cell (Xn li)) ?_
    refine ρ ?_
    refine cf ?_ ?_
    . exact dF (by have := hv32 i li; omega)
    refine ρ ?_
    exact Qw (i + 1) sO ⟨om, hx4⟩ om
  have hi' : i = vars.length := by have := oF h; omega
  clear h hi hi'
  have hxd4 : Ext w4 w4.drew := (Ext.refl w4).drew
  have hB4d := hB4.ext hxd4
  refine ρ ?_
  refine dr [(0, 0), (0, 1), (0, 2), (0, 3), (0, 4), (1, 5), (0, 6)] kr ?_
  refine ρd ?_
  refine dld (hB4d.at (i := 0) rfl) ?_
  refine ρd ?_
  refine Qz (cs := [.int .i64 (vars.length : Int), .slice G ps.length gc]) (hB4d.sub2 (i := 1) rfl rfl) ?_
  refine ρd ?_
  refine dcl (Jdg ((hA.ext (hxw4.trans hxd4)).rel)) ?_
  rintro u w5 ⟨rfl, hx5⟩
  refine ⟨hx5, ?_⟩
  refine ρd ?_
  refine ρ ?_
  refine cf ?_ ?_
  . exact Qzd (by rw [hnl])
  have hxw5 := (hxw4.trans hxd4).trans hx5
  have hx25 : Ext w2 w5 := ((hx3.trans hx4).trans hxd4).trans hx5
  refine ρ ?_
  refine alc Yj ?_
  intro w6 bq hx6 hbq hBq
  have hB6 := (hB2.ext hx25).ext hx6
  have hxw6 := hxw5.trans hx6
  have hBr6 := (hBr.ext hx25).ext hx6
  refine ρ ?_
  refine ld (hB6.at (i := 0) rfl) ?_
  refine ρ ?_
  refine Xt (fun (k : Nat) (vv vc : Value) => [(1, .int .u32 (s : Int)), (2, .pointer (some ⟨b, 0, none⟩)), (4, .pointer (some ⟨br, 0, none⟩)), (9, .pointer (some ⟨bq, 0, none⟩)), (10, vc), (59, .slice D (nz vars).length d), (60, .int .i64 ((nz vars).length : Int)), (61, .int .i64 (k : Int))])
    (fun k vv vc w' => k ≤ vars.length ∧ Ext w w' ∧ Blk w' b 99 [.slice D (nz vars).length d, .int .i64 (vars.length : Int), .slice G ps.length gc] ∧ Blk w' br 99 [.slice none 0 0, .int .i64 0, .slice none 0 0] ∧ Blk w' bq 99 [vv, .int .i64 0, .slice none 0 0] ∧
      Xu w' w.heap.size vv (inS (vars.take k) s) ∧ Xu w' w.heap.size vc (Xp vars s k) ∧ ∀ g, vv.ownBlock = some g → vc.ownBlock ≠ some g) (fun k _ _ => vars.length - k) 0 (.slice none 0 0) (.slice none 0 0) sB
    ⟨Nat.zero_le _, hxw6, hB6, hBr6, hBq, Xo _ _ _ _, Xo _ _ _ _, fun g e => (by cases e)⟩ ?_
  clear hB6 hBr6 hBq
  rintro k vv vc w7 ⟨hk, hx7, hB7, hBr7, hBq7, hv7, hc7, hne7⟩
  refine ρ ?_
  refine ci (fun h => ?_) (fun h => ?_)
  . have lk : k < vars.length := by have := oT h; omega
    clear h
    have hD7 := hdr'.ext hx7
    have hcl := Jkx vars s k om
    have hil : (inS (vars.take k) s).length ≤ 32 := by
      have := List.length_filter_le (fun v => s.testBit v) (vars.take k)
      rw [List.length_take] at this; unfold inS; omega
    refine ρ ?_
    refine ix k hD7 om ?_
    refine ρ ?_
    refine ld (hD7.cell (Xn lk)) ?_
    refine ρ ?_
    refine Km (s := s) (v := vars.getD k 0) (by have := hv32 k lk; omega) ?_
    refine ρ ?_
    refine ci (fun h => ?_) (fun h => ?_)
    . rw [Ua hs] at h
      refine ρ ?_
      refine ld (hBq7.at (i := 0) rfl) ?_
      refine ρ ?_
      refine bsl (bs1Int'' _) ?_
      intro w8 b8 hx8 hb8 hB8
      refine ρ ?_
      refine apI (Jk hv7 hx8) hB8 om (hx7.trans hx8).size ?_
      intro vv9 w9 hv9 hg9 hn9
      have own_ge : ∀ {w' : World} {cs : List Nat} {v : Value}, Xu w' w.heap.size v cs → ∀ g, v.ownBlock = some g → w.heap.size ≤ g ∧ g < w'.heap.size := fun ho g eg => by
        obtain ⟨_, _, _, _, hf⟩ := Jv ho; exact hf g eg
      have hx9 : Ext w w9 := Qb (hx7.trans hx8) hg9 (fun g eg => (own_ge hv7 g eg).1)
      have hBq9 := (hBq7.ext hx8).grown hg9 ((hBq7.ext hx8).ne_own (Jk hv7 hx8) rfl)
      have hB9 := (hB7.ext hx8).grown hg9 ((hB7.ext hx8).ne_own (Jk hv7 hx8) rfl)
      have hBr9 := (hBr7.ext hx8).grown hg9 ((hBr7.ext hx8).ne_own (Jk hv7 hx8) rfl)
      have hc9 : Xu w9 w.heap.size vc (Xp vars s k) := Jr (Jk hc7 hx8) (GrN.by hg9 fun g eg => eg) (fun g eg e => hne7 g e eg)
      have hne9 : ∀ g, vv9.ownBlock = some g → vc.ownBlock ≠ some g := fun g eg e => by
        rcases hn9 g eg with h' | h'
        . exact hne7 g h' e
        . have := (own_ge hc7 g e).2; have := hx8.size; omega
      have h19 : vv9.oneCell' = true := by obtain ⟨_, _, e, _⟩ := Jv hv9; rw [e]; rfl
      refine ρ ?_
      refine sto (p := ⟨bq, 0, none⟩) (hBq9.cell 0) (hBq9.frozen _) ?_ (hv := h19)
      have hgs : w9.grownBy (w9.setCell ⟨bq, 0, none⟩ vv9) (some bq) := Qbv _
      have hBqs := hBq9.set 0 vv9
      have hxs : Ext w (w9.setCell ⟨bq, 0, none⟩ vv9) := hx9.setCell (by simp only; have := hxw5.size; omega) _
      have hvs : Xu (w9.setCell ⟨bq, 0, none⟩ vv9) w.heap.size vv9 (inS (vars.take k) s ++ [vars.getD k 0]) := Jr hv9 (GrN.by hgs fun g eg => eg) (fun g eg e => by injection e with e; subst e; exact hBq9.ne_own hv9 rfl eg.symm)
      have hcs : Xu (w9.setCell ⟨bq, 0, none⟩ vv9) w.heap.size vc (Xp vars s k) := Jr hc9 (GrN.by hgs fun g eg => eg) (fun g eg e => by injection e with e; subst e; exact hBq9.ne_own hc9 rfl eg.symm)
      have bqne : ∀ {x : Nat}, x < w5.heap.size → x ≠ bq := fun h e => by omega
      have hBs : Blk (w9.setCell ⟨bq, 0, none⟩ vv9) b 99 _ := hB9.far (bqne (by have := hB2.lt; have := hx25.size; omega)) _
      have hBrs : Blk (w9.setCell ⟨bq, 0, none⟩ vv9) br 99 _ := hBr9.far (bqne (by have := hBr.lt; have := hx25.size; omega)) _
      generalize w9.setCell ⟨bq, 0, none⟩ vv9 = w10 at *
      clear hBq9 hB9 hBr9 hc9 hx9 hg9 hgs hv9 hn9
      refine ρ ?_
      refine bsl (bs1Int'' _) ?_
      intro w11 b11 hx11 hb11 hB11
      refine ρ ?_
      refine apI (Jk hcs hx11) hB11 om (hxs.trans hx11).size ?_
      intro vc12 w12 hc12 hg12 hn12
      have hx12 : Ext w w12 := Qb (hxs.trans hx11) hg12 (fun g eg => (own_ge hcs g eg).1)
      have nb : ∀ {g : Nat} {cs : List Value}, Blk w10 g 99 cs → Blk w12 g 99 cs := fun h => (h.ext hx11).grown hg12 ((h.ext hx11).ne_own (Jk hcs hx11) rfl)
      refine ρ ?_
      refine Xj (k + 1) vv9 vc12 sO ⟨om, hx12, nb hBs, nb hBrs, nb hBqs, ?_, ?_, fun g eg e => ?_⟩ om
      . rw [Jkj lk, if_pos h]
        exact Jr (Jk hvs hx11) (GrN.by hg12 fun g eg => eg) (fun g eg e => hne9 g eg e)
      . rw [Ky, if_pos h]; exact hc12
      . rcases hn12 g e with h' | h'
        . exact hne9 g eg h'
        . have := (own_ge hvs g eg).2; have := hx11.size; omega
    . rw [Ua hs] at h
      have hf : ¬ s.testBit (vars.getD k 0) = true := by rw [h]; simp
      refine ρ ?_
      refine Xj (k + 1) vv vc sO ⟨om, hx7, hB7, hBr7, hBq7, ?_, ?_, hne7⟩ om
      . rw [Jkj lk, if_neg hf, List.append_nil]; exact hv7
      . rw [Ky, if_neg hf, List.append_nil]; exact hc7
  have hk' : k = vars.length := by have := oF h; omega
  subst hk'
  clear h
  rw [List.take_length] at hv7
  have hcc : Xp vars s vars.length = Ql vars s := rfl
  rw [hcc] at hc7
  obtain ⟨VA, vac, eva, hva, _⟩ := Jv hv7
  obtain ⟨CA, cac, eca, hca, _⟩ := Jv hc7
  have hcl32 : (Ql vars s).length ≤ 32 := by
    have := List.length_filter_le (fun i => s.testBit (vars.getD i 0)) (List.range vars.length)
    rw [List.length_range] at this; unfold Ql; omega
  have hil32 : (inS vars s).length ≤ 32 := by
    have := List.length_filter_le (fun v => s.testBit v) vars
    unfold inS; omega
  refine ρ ?_
  refine lds (cs := [.int .i64 (vars.length : Int), .slice G ps.length gc]) (hB7.sub2 (i := 1) rfl rfl) ?_
  refine ρ ?_
  have hcolsV : IntsV w7 vc (nz (Ql vars s)) := by
    refine ⟨CA, cac, by rw [Qq]; exact eca, by rw [Qq]; exact hca, by rw [Qq]; omega, ?_⟩
    rw [Qq]
    have := hc7
    rw [eca] at this; exact Rd.own this
  refine cl (Jpp (cs := Ql vars s) ((hA.ext hx7).rel) hcolsV hlen (fun c hc => Jxr hc) hcl32 hbig) ?_
  rintro u w8 ⟨hx8, rv, rfl, ⟨z, RB, rm, rd, rfl⟩, m, hoff, hml, hms, hset⟩
  refine ρ ?_
  refine alc Ux ?_
  intro w9 b9 hx9 hb9 hB9
  refine ρ ?_
  refine stb (cs' := [.int .i64 z, .slice RB rm rd]) hB9 ?_ Vp
  intro w10 hB10 hg10 hx10
  have hx810 : Ext w8 w10 := hx10 w8 hx9 hb9
  refine ρ ?_
  refine ldW hB10 ?_
  have hBq10 := (hBq7.ext hx8).ext hx810
  refine ρ ?_
  refine stB (o := 1) (us := [.int .i64 z, .slice RB rm rd]) hBq10 (by simp) Vp ?_
  intro w11 hBq11 hg11
  refine ρ ?_
  refine ldW hBq11 ?_
  have hbqw : w.heap.size ≤ bq := by have := hxw5.size; omega
  have hx711 : Ext w w11 := Jyl ((hx7.trans hx8).trans hx810) hg11 hbqw
  have hbrq : br ≠ bq := by have := hBr.lt; have := hx25.size; omega
  have hBr11 : Blk w11 br 99 _ := ((hBr7.ext hx8).ext hx810).grown hg11 (fun e => by injection e with e; exact hbrq e)
  refine ρ ?_
  refine stb (cs' := [vv, .int .i64 z, .slice RB rm rd]) hBr11 ?_ (fun u hu => by
    simp only [List.mem_cons, List.not_mem_nil, or_false] at hu
    rcases hu with rfl | rfl | rfl
    . rw [eva]; rfl
    . rfl
    . rfl)
  intro w12 hBr12 hg12 _
  refine ρ ?_
  have hbrw : w.heap.size ≤ br := by have := hx1.size; omega
  have hx12 : Ext w w12 := Jyl hx711 hg12 hbrw
  refine Zf hBr12 ⟨hx12, (vv, .int .i64 z, .slice RB rm rd), rfl, m, ?_, hml, hms, hset⟩
  have hgN : GrN (fun k => k = bq ∨ k = br) w10 w12 := (GrN.by hg11 fun k e => .inl (by injection e with e; exact e.symm)).trans (GrN.by hg12 fun k e => .inr (by injection e with e; exact e.symm))
  have hb7 : bq < w7.heap.size ∧ br < w7.heap.size := ⟨hBq7.lt, hBr7.lt⟩
  intro w' hg'
  have hg812 : GrN (fun k => k < w7.heap.size) w8 w' := ((GrN.ext hx810).trans (hgN.mono fun k _ hk => by rcases hk with rfl | rfl; · exact hb7.1
                                                                                                          exact hb7.2)).trans (hg'.mono fun k _ hk => nM hk hx7.size)
  obtain ⟨rv, erv, hrv⟩ := hoff w' hg812
  have hrv2 : (Value.int .i64 z) = .int .i64 ((Ql vars s).length : Int) ∧ Value.slice RB rm rd = rv := by
    simp only [Value.agg.injEq, Array.mk.injEq, List.cons.injEq, and_true] at erv
    exact erv
  have hvw : Xu w' w.heap.size vv (inS vars s) := by
    have h1 := Jk (Jk hv7 hx8) hx810
    have h2 : Xu w12 w.heap.size vv (inS vars s) := Jr h1 hgN fun g eg hk => by
      rcases hk with rfl | rfl
      . exact hBq10.ne_own h1 rfl eg.symm
      . exact ((hBr7.ext hx8).ext hx810).ne_own h1 rfl eg.symm
    refine Jr h2 hg' fun g eg hk => ?_
    obtain ⟨_, _, _, _, hf⟩ := Jv h2
    have := (hf g eg).1; omega
  have hcl : (Ql vars s).length = (inS vars s).length := by
    have := Jkx vars s vars.length (Nat.le_refl _)
    rw [List.take_length] at this; exact this
  refine ⟨⟨VA, vac, by rw [Qq]; exact eva, by rw [Qq]; exact hva, by rw [Qq]; omega, ?_⟩, ?_, ?_⟩
  . rw [Qq]
    rw [eva] at hvw; exact Rd.own hvw
  . simp only; rw [← hcl]; exact hrv2.1
  . simp only; rw [hrv2.2]; exact hrv
end Go.Proofs.YtebcagekopgdhaaGreatDoor
