/- Part 8. -/
import Derived.Test.YtebcagekopgdhaaGreatDoorG07
set_option linter.unusedVariables false
set_option maxRecDepth 100000
set_option maxHeartbeats 40000000
namespace Go.Proofs.YtebcagekopgdhaaGreatDoor
namespace Pl
variable {cs l ord r:List Nat}{N O c j k m n p u v x:Nat}{g h:Nat->Nat}
def Jd: Nat->(Nat->Nat)->Nat
 | 0,_=>1
 | n+1,g=>Jd n g*g n
theorem Ym(e:∀ c,c<n->g c=h c): Jd n g=Jd n h:=by
 induction n with
 | zero=>rfl
 | succ n ih=>rw [Jd,Jd,ih (λc o=>e c om),e n om]
theorem Qfn(n:Nat)(g h:Nat->Nat): Jd n (λc=>g c*h c)=Jd n g*Jd n h:=by
 induction n with
 | zero=>rfl
 | succ n ih=>rw [Jd,Jd,Jd,ih,Nat.mul_assoc,Nat.mul_assoc,Nat.mul_left_comm (Jd n h)]
theorem Jfb(e:∀ c,c<n->g c=1): Jd n g=1:=by
 induction n with
 | zero=>rfl
 | succ n ih=>rw [Jd,ih (λc o=>e c om),e n om]
theorem prodR_pos: 0<Jd n g↔∀ c,c<n->0<g c:=by
 induction n with
 | zero=>exact ⟨λ_ c o=>om,λ_=>Nat.one_pos⟩
 | succ n ih=>
  rw [Jd];constructor
  .intro h c o;have C:=Nat.pos_of_mul_pos_right h;have u:=Nat.pos_of_mul_pos_left h;by_cases e:c=n
   .rw [e];first|exact C|exact u
   .first|exact ih.1 C c (by omega)|exact ih.1 u c om
  .intro h;exact Nat.mul_pos (ih.2 λc o=>h c om) (h n om)
theorem Jkh(hk:k<n): Jd n g=g k*Jd n (λc=>if c=k then 1 else g c):=by
 induction n with
 | zero=>omega
 | succ n ih=>
  rw [Jd,Jd];by_cases e:k=n
  .subst e;rw [if_pos rfl,Nat.mul_one,Nat.mul_comm];congr 1
   exact Ym λc u=>by rw [if_neg om]
  .rw [if_neg (λo=>e o.symm),ih om,Nat.mul_assoc]
section
variable {α:Type}
def tot: List (α×Nat)->Nat
 | []=>0
 | p::l=>p.2+tot l
theorem Jzs(l m:List (α×Nat)): tot (l++m)=tot l+tot m:=by
 induction l with
 | nil=>simp [tot]
 | cons p l ih=>rw [List.cons_append,tot,tot,ih,Nat.add_assoc]
theorem Qyx{l:List (α×Nat)}(h:∀ p∈l,0<p.2): 0<tot l↔l≠[]:=by
 cases l with
 | nil=>simp [tot]
 | cons p l=>have:=h p (mC ..);simp [tot];omega
def prj(d0:α)(cs:List Nat)(y:List α): List α:=cs.map λc=>y.getD c d0
theorem Qfp(d0:α)(cs:List Nat)(y:List α): (prj d0 cs y).length=cs.length:=by simp [prj]
theorem Jvw{d0:α}{y z:List α}(h:∀ c∈cs,y.getD c d0=z.getD c d0): prj d0 cs y=prj d0 cs z:=List.map_congr_left h
theorem Jkw{d0:α}{y z:List α}(h:c<y.length): (y++z).getD c d0=y.getD c d0:=by simp [List.getD,List.getElem?_append_left h]
structure AX(α:Type) where
 d0: α
 F:Nat
 ks:Nat->List Nat
 par:Nat->Int
 E:Nat->List α->List (α×Nat)
def AX.key(X:AX α)(c:Nat)(y:List α): List α:=prj X.d0 (X.ks c) y
def AX.T(X:AX α)(c:Nat)(y:List α): Nat:=tot (X.E c (X.key c y))
structure AX.Ok(X:AX α): Prop where
 kl:∀ v,v<X.F->∀ u∈X.ks v,(u:Int)<=X.par v
 pl:∀ v,v<X.F->-1<=X.par v/\X.par v<v
 wt:∀ v,v<X.F->∀ y,y.length=v->∀ p∈X.E v (X.key v y),0<p.2/\p.2=Jd X.F (λc=>if X.par c=v then X.T c (y++[p.1]) else 1)
def AX.pend(X:AX α)(m:Nat)(y:List α): Nat:=Jd X.F (λc=>if m<=c/\X.par c<m then X.T c y else 1)
def AX.others(X:AX α)(m:Nat)(y:List α): Nat:=Jd X.F (λc=>if m<c/\X.par c<m then X.T c y else 1)
def AX.ext(X:AX α): Nat->List α->List (List α)
 | 0,y=>[y]
 | n+1,y=>(X.E y.length (X.key y.length y)).flatMap λp=>X.ext n (y++[p.1])
variable {X:AX α}
theorem AX.Ok.key_pre(h:X.Ok){y z:List α}(hc:c<X.F)(hp:X.par c<y.length): X.key c (y++z)=X.key c y :=
 Jvw λu o=>Jkw (by have:=h.kl c hc u o;omega)
theorem AX.Ok.T_pre(h:X.Ok){y z:List α}(hc:c<X.F)(hp:X.par c<y.length): X.T c (y++z)=X.T c y:=by rw [AX.T,AX.T,h.key_pre hc hp]
theorem AX.Ok.pend_split(h:X.Ok){y:List α}(hm:y.length<X.F): X.pend y.length y=X.T y.length y*X.others y.length y:=by
 unfold AX.pend AX.others;rw [Jkh hm,if_pos ⟨Nat.le_refl _,(h.pl _ hm).2⟩];congr 1
 refine Ym λc u=>?_;by_cases e:c=y.length
 .rw [if_pos e,if_neg om]
 .rw [if_neg e];by_cases e2:y.length<c/\X.par c<y.length
  .rw [if_pos e2,if_pos ⟨om,e2.2⟩]
  .rw [if_neg e2,if_neg (λo=>e2 ⟨om,o.2⟩)]
theorem AX.Ok.pend_next(h:X.Ok){y:List α}(hm:y.length<X.F){p:α×Nat}(hp:p∈X.E y.length (X.key y.length y)): X.pend (y.length+1) (y++[p.1])=p.2*X.others y.length y:=by
 rw [(h.wt _ hm y rfl p hp).2];unfold AX.pend AX.others;rw [<-Qfn];refine Ym λc o=>?_;have u:=h.pl c o;by_cases e:X.par c=y.length
 .rw [if_pos e,if_neg (show ¬ (y.length<c/\X.par c<y.length) by omega),if_pos om,Nat.mul_one]
 .rw [if_neg e,Nat.one_mul];by_cases e2:y.length<c/\X.par c<y.length
  .rw [if_pos e2,if_pos om,h.T_pre o e2.2]
  .rw [if_neg e2,if_neg om]
theorem Jgv{β:Type}{f:α×Nat->List β}{O:Nat}: ∀ {l:List (α×Nat)},(∀ p∈l,(f p).length=p.2*O)->(l.flatMap f).length=tot l*O
 | [],_=>by simp [tot]
 | p::l,h=>by
  rw [List.flatMap_cons,List.length_append,h p (mC ..),Jgv λq hq=>h q (List.mem_cons_of_mem _ hq),tot,Nat.add_mul]
theorem Qng{β:Type}{f:α×Nat->List β}{l1 l2:List (α×Nat)}{p:α×Nat}(h:∀ q∈l1++p::l2,(f q).length=q.2*O)(h1:tot l1*O<=k)(h2:k<(tot l1+p.2)*O): ((l1++p::l2).flatMap f)[k]?=(f p)[k-tot l1*O]?:=by
 have C:(l1.flatMap f).length=tot l1*O:=Jgv λq o=>h q (List.mem_append_left _ o);have u:=h p (List.mem_append_right _ (mC ..));rw [List.flatMap_append,List.flatMap_cons,List.getElem?_append_right om,C,List.getElem?_append_left];rw [u];rw [Nat.add_mul]at h2;omega
theorem AX.Ok.ext_len(h:X.Ok): ∀ (n:Nat) (y:List α),y.length+n=X.F->(X.ext n y).length=X.pend y.length y
 | 0,y,e=>by
  rw [AX.ext,AX.pend,Jfb];rfl;intro c hc;rw [if_neg om]
 | n+1,y,e=>by
  have hm:y.length<X.F:=om
  rw [AX.ext,h.pend_split hm,AX.T];refine Jgv λp hp=>?_;have:=h.ext_len n (y++[p.1]) (by simp;omega);rw [this,List.length_append,List.length_singleton,h.pend_next hm hp]
theorem AX.Ok.ext_at(h:X.Ok){y:List α}(e:y.length+(n+1)=X.F){l1 l2:List (α×Nat)}{p:α×Nat}(hE:X.E y.length (X.key y.length y)=l1++p::l2)(ho:0<X.others y.length y)(h1:tot l1<=k / X.others y.length y)(h2:k / X.others y.length y<tot l1+p.2):
  (X.ext (n+1) y)[k]?=(X.ext n (y++[p.1]))[(k / X.others y.length y-tot l1)*X.others y.length y+k % X.others y.length y]?/\(k / X.others y.length y-tot l1)*X.others y.length y+k % X.others y.length y<X.pend (y.length+1) (y++[p.1]):=by
 have o:y.length<X.F:=om
 have J:p∈X.E y.length (X.key y.length y):=by rw [hE];exact List.mem_append_right _ (mC ..)
 have u:∀ q∈X.E y.length (X.key y.length y),(X.ext n (y++[q.1])).length=q.2*X.others y.length y:=λq G=>by
  rw [h.ext_len n (y++[q.1]) (by simp;omega),List.length_append,List.length_singleton,h.pend_next o G]
 rw [h.pend_next o J,AX.ext];generalize X.others y.length y=O at *
 have hk:=Nat.div_add_mod k O;have hr:=Nat.mod_lt k ho;rw [hE]at u ⊢;have Z:tot l1*O<=k:=by
  have:=nO O h1;rw [Nat.mul_comm (k / O)]at this;omega
 have C:k<(tot l1+p.2)*O:=by
  have:=nO O h2;rw [Nat.succ_mul,Nat.mul_comm (k / O)]at this;omega
 have U:(k / O-tot l1)*O+k % O=k-tot l1*O:=by rw [Nat.sub_mul,Nat.mul_comm (k / O)];have:=nO O h1;rw [Nat.mul_comm (k / O)]at this;omega
 rw [Qng u Z C,U];refine ⟨rfl,?_⟩;rw [Nat.add_mul]at C;omega
theorem AX.ext_mem: ∀ (n:Nat) (y x:List α),x∈X.ext n y↔x.length=y.length+n/\x.take y.length=y/\∀ v,y.length<=v->v<y.length+n->x.getD v X.d0∈(X.E v (X.key v (x.take v))).map (·.1)
 | 0,y,x=>by
  rw [AX.ext,List.mem_singleton];constructor
  .rintro rfl;exact ⟨rfl,List.take_length,λv h1 h2=>om⟩
  .rintro ⟨h1,h2,_⟩;rw [<-h2,List.take_of_length_le om]
 | n+1,y,x=>by
  rw [AX.ext,List.mem_flatMap];constructor
  .rintro ⟨p,hp,hx⟩;obtain ⟨h1,h2,h3⟩:=(AX.ext_mem n _ x).1 hx;rw [List.length_append,List.length_singleton]at h1 h2 h3;have hy:x.take y.length=y:=by
    have:=congrArg (List.take y.length) h2;rw [List.take_take,Nat.min_eq_left om,List.take_append_of_le_length (Nat.le_refl _),List.take_length]at this;exact this
   refine ⟨om,hy,λv h4 h5=>?_⟩;by_cases e:v=y.length
   .subst e;rw [hy];have:x.getD y.length X.d0=p.1:=by
     have:=congrArg (λl=>l.getD y.length X.d0) h2;simpa [List.getD] using this
    rw [this];exact List.mem_map_of_mem hp
   .exact h3 v om om
  .rintro ⟨h1,h2,h3⟩;obtain ⟨p,hp,e⟩:=List.mem_map.1 (h3 y.length (Nat.le_refl _) om);rw [h2]at hp;refine ⟨p,hp,(AX.ext_mem n _ x).2 ⟨?_,?_,λv h4 h5=>h3 v ?_ ?_⟩⟩
   .simp;omega
   .rw [List.length_append,List.length_singleton,e];have hl:y.length<x.length:=om
    rw [List.take_add_one,h2];congr 1
    simp [List.getD,List.getElem?_eq_getElem hl]
   .simp at h4;omega
   .simp at h5;omega
end
structure BX(α:Type) where
 d0: α
 N:Nat
 F:Nat
 K:Nat->List Nat
 par:Nat->Int
 pl:Nat->Nat
 ats:List (List Nat×List (List α))
 T:Nat->List α->Nat
 E:Nat->List α->List (α×Nat)
section
variable {α:Type}
def BX.bag(X:BX α)(v:Nat)(z:List α): Prop:=∀ a∈X.ats,∃ r∈a.2,∀ j,j<a.1.length->(a.1.getD j 0=v∨a.1.getD j 0∈X.K v)->r.getD j X.d0=z.getD (a.1.getD j 0) X.d0
def BX.W(X:BX α)(v:Nat)(z:List α): Nat:=Jd X.N (λc=>if X.par c=v then X.T c (prj X.d0 (X.K c) z) else 1)
structure BX.Ok(X:BX α): Prop where
 FN:X.F<=X.N
 plN:∀ v,v<X.N->X.pl v<X.N
 inj:∀ u v,u<X.N->v<X.N->X.pl u=X.pl v->u=v
 k1:∀ v,v<X.N->∀ u∈X.K v,u<X.N/\X.pl v<X.pl u
 k2:∀ v,v<X.N->(X.K v=[]/\X.par v = -1)∨∃ p:Nat,X.par v=p/\p∈X.K v/\∀ u∈X.K v,X.pl p<=X.pl u
 k3:∀ v,v<X.N->∀ p:Nat,X.par v=p->∀ x∈X.K v,x=p∨x∈X.K p
 k4:∀ a∈X.ats,∀ v∈a.1,(∀ u∈a.1,X.pl v<=X.pl u)->∀ u∈a.1,u=v∨u∈X.K v
 k5:∀ u v,u<X.F->v<u->X.pl u<X.pl v
 k6:∀ u v,u<X.F->X.F<=v->v<X.N->X.pl v<X.pl u
 al:∀ a∈X.ats,(∀ u∈a.1,u<X.N)/\∀ r∈a.2,r.length=a.1.length
 t1:∀ v,X.F<=v->v<X.N->∀ k,X.T v k<=1/\(0<X.T v k↔∃ z,z.length=X.N/\X.bag v z/\prj X.d0 (X.K v) z=k/\0<X.W v z)
 t2:∀ v,v<X.F->∀ k,X.T v k=tot (X.E v k)/\∀ p,p∈X.E v k↔∃ z,z.length=X.N/\X.bag v z/\prj X.d0 (X.K v) z=k/\z.getD v X.d0=p.1/\p.2=X.W v z/\0<p.2
def BX.Join(X:BX α)(z:List α): Prop:=z.length=X.N/\∀ a∈X.ats,prj X.d0 a.1 z∈a.2
def BX.Roots(X:BX α): Prop:=(∀ v,v<X.N->X.par v = -1->0<X.T v [])/\∀ a∈X.ats,a.2≠[]
variable {X:BX α}
theorem Jjb(d0:α){y:List α}(h:j<cs.length): (prj d0 cs y).getD j d0=y.getD (cs.getD j 0) d0:=by
 simp [prj,List.getD,List.getElem?_eq_getElem h]
theorem BX.Ok.kpar(h:X.Ok)(hc:c<X.N)(hp:X.par c=v): v∈X.K c/\v<X.N/\X.pl c<X.pl v/\∀ u∈X.K c,u=v∨u∈X.K v:=by
 rcases h.k2 c hc with ⟨_,o⟩|⟨p,o,h3,_⟩
 .rw [o]at hp;omega
 .have:p=v:=om
  subst this;exact ⟨h3,(h.k1 c hc p h3).1,(h.k1 c hc p h3).2,h.k3 c hc p hp⟩
theorem BX.Ok.kroot(h:X.Ok)(hc:c<X.N)(hp:X.par c = -1): X.K c=[]:=by
 rcases h.k2 c hc with ⟨o,_⟩|⟨p,o,_,_⟩
 .exact o
 .omega
theorem BX.bag_congr{z z':List α}(e:∀ u,u=v∨u∈X.K v->z.getD u X.d0=z'.getD u X.d0)(hb:X.bag v z): X.bag v z':=λa J=>by
 obtain ⟨r,C,O⟩:=hb a J;exact ⟨r,C,λj G o=>by rw [O j G o,e _ o]⟩
theorem BX.Ok.W_congr(h:X.Ok){z z':List α}(e:∀ u,u=v∨u∈X.K v->z.getD u X.d0=z'.getD u X.d0): X.W v z=X.W v z':=by
 refine Ym λc C=>?_;split
 .rename_i hp;rw [Jvw λu o=>e u ((h.kpar C hp).2.2.2 u o)]
 .rfl
theorem BX.Ok.join_W(h:X.Ok){z:List α}(hz:X.Join z): (∀ v,X.bag v z)/\∀ v,v<X.N->0<X.W v z/\0<X.T v (prj X.d0 (X.K v) z):=by
 have u:∀ v,X.bag v z:=λv a U=>⟨_,hz.2 a U,λj O _=>Jjb X.d0 O⟩;refine ⟨u,?_⟩;have key:∀ n v,v<X.N->X.pl v<n->0<X.W v z/\0<X.T v (prj X.d0 (X.K v) z):=by
  intro n;induction n with
  | zero=>intro v _ Z;omega
  | succ n ih=>
   intro v o Z;have C:0<X.W v z:=by
    refine prodR_pos.2 λc G=>?_;split
    .rename_i hp;have:=(h.kpar G hp).2.2.1;exact (ih c G om).2
    .exact Nat.one_pos
   refine ⟨C,?_⟩;by_cases hF:v<X.F
   .rw [(h.t2 v hF _).1];have J:=((h.t2 v hF (prj X.d0 (X.K v) z)).2 (z.getD v X.d0,X.W v z)).2 ⟨z,hz.1,u v,rfl,rfl,rfl,C⟩;obtain ⟨l1,l2,e⟩:=List.append_of_mem J;rw [e,Jzs,tot];simp only;omega
   .exact (h.t1 v om o _).2.2 ⟨z,hz.1,u v,rfl,C⟩
 exact λv o=>key _ v o (h.plN v o)
theorem getD_set'(d0:α)(l:List α)(i k:Nat)(x:α)(hi:i<l.length): (l.set i x).getD k d0=if k=i then x else l.getD k d0:=by
 by_cases e:k=i
 .subst e;simp [List.getD,hi]
 .rw [if_neg e];simp [List.getD,List.getElem?_set_ne (λo=>e o.symm)]
theorem BX.Ok.choose(h : X.Ok){y : List α}(hy : y.length = X.F)(hE : ∀ v, v < X.F → y.getD v X.d0 ∈ (X.E v (prj X.d0 (X.K v) y)).map (·.1))(hR : X.Roots):
    ∀ n, n ≤ X.N → ∃ z, z.length = X.N ∧ (∀ u, u < X.F → z.getD u X.d0 = y.getD u X.d0) ∧ ∀ v, v < X.N → (v < X.F ∨ X.N ≤ X.pl v + n) → X.bag v z ∧ 0 < X.W v z := by
  intro n
  induction n with
  | zero =>
    intro _
    refine ⟨y ++ List.replicate (X.N - X.F) X.d0, by have := h.FN; simp [hy]; omega, fun u hu => Jkw om, fun v hv hc => ?_⟩
    have hF : v < X.F := hc.resolve_right (by have := h.plN v hv; omega)
    obtain ⟨p, hp, e⟩ := List.mem_map.1 (hE v hF)
    obtain ⟨z, hz, hb, hk, hv', hw, h0⟩ := ((h.t2 v hF _).2 p).1 hp
    have agree : ∀ u, u = v ∨ u ∈ X.K v → z.getD u X.d0 = (y ++ List.replicate (X.N - X.F) X.d0).getD u X.d0 := by
      intro u hu
      have hlt : u < X.F := by
        rcases hu with rfl | hu
        . exact hF
        . have := h.k1 v hv u hu
          rcases Nat.lt_or_ge u X.F with h' | h'
          . exact h'
          . have := h.k6 v u hF h' this.1; omega
      rw [Jkw om]
      rcases hu with rfl | hu
      . rw [hv', e]
      . obtain ⟨j, hj, ej⟩ := List.getElem_of_mem hu
        have := congrArg (fun l => l.getD j X.d0) hk
        rw [Jjb X.d0 hj, Jjb X.d0 hj] at this
        rw [← ej]; simpa [List.getD, List.getElem?_eq_getElem hj] using this
    exact ⟨BX.bag_congr agree hb, by rw [← h.W_congr agree, ← hw]; exact h0⟩
  | succ n ih =>
    intro hn
    obtain ⟨z, hz, hzy, hg⟩ := ih om
    by_cases hv : ∃ v, v < X.N ∧ X.F ≤ v ∧ X.pl v + (n + 1) = X.N
    . obtain ⟨v, hvN, hvF, hpl⟩ := hv
      have hT : 0 < X.T v (prj X.d0 (X.K v) z) := by
        rcases h.k2 v hvN with ⟨h1, h2⟩ | ⟨p, h2, h3, _⟩
        . rw [h1]; exact hR.1 v hvN h2
        . have hp := h.kpar hvN h2
          have := (hg p hp.2.1 (.inr om)).2
          have h5 := prodR_pos.1 this v hvN
          rw [if_pos h2] at h5; exact h5
      obtain ⟨z', hz', hb', hk', hw'⟩ := (h.t1 v hvF hvN _).2.1 hT
      have hvz : v < z.length := by omega
      have far : ∀ u, u ≠ v → (z.set v (z'.getD v X.d0)).getD u X.d0 = z.getD u X.d0 := fun u hu => by rw [getD_set' _ _ _ _ _ hvz, if_neg hu]
      refine ⟨z.set v (z'.getD v X.d0), by simp [hz], fun u hu => by rw [far u om]; exact hzy u hu, fun u hu hc => ?_⟩
      by_cases e : u = v
      . subst e
        have agree : ∀ x, x = u ∨ x ∈ X.K u → z'.getD x X.d0 = (z.set u (z'.getD u X.d0)).getD x X.d0 := by
          intro x hx
          by_cases ex : x = u
          . rw [ex, getD_set' _ _ _ _ _ hvz, if_pos rfl]
          . rw [far x ex]
            have hxK := hx.resolve_left ex
            obtain ⟨j, hj, ej⟩ := List.getElem_of_mem hxK
            have := congrArg (fun l => l.getD j X.d0) hk'
            rw [Jjb X.d0 hj, Jjb X.d0 hj] at this
            rw [← ej]; simpa [List.getD, List.getElem?_eq_getElem hj] using this
        exact ⟨BX.bag_congr agree hb', by rw [← h.W_congr agree]; exact hw'⟩
      . have hlate : X.pl v < X.pl u := by
          rcases hc with hc | hc
          . exact h.k6 u v hc hvF hvN
          . have : X.pl u ≠ X.pl v := fun e' => e (h.inj u v hu hvN e')
            omega
        have agree : ∀ x, x = u ∨ x ∈ X.K u → z.getD x X.d0 = (z.set v (z'.getD v X.d0)).getD x X.d0 := by
          intro x hx
          refine (far x ?_).symm
          rintro rfl
          rcases hx with rfl | hx
          . exact e rfl
          . have := (h.k1 u hu x hx).2; omega
        have hgu := hg u hu (by rcases hc with hc | hc; · exact .inl hc
                                exact .inr om)
        exact ⟨BX.bag_congr agree hgu.1, by rw [← h.W_congr agree]; exact hgu.2⟩
    . refine ⟨z, hz, hzy, fun u hu hc => hg u hu ?_⟩
      rcases hc with hc | hc
      . exact .inl hc
      . by_cases hF : u < X.F
        . exact .inl hF
        . refine .inr ?_
          by_cases e : X.pl u + (n + 1) = X.N
          . exact absurd ⟨u, hu, by omega, e⟩ hv
          . omega
theorem Jtl(pl:Nat->Nat): ∀ {l:List Nat},l≠[]->∃ v∈l,∀ u∈l,pl v<=pl u
 | [v],_=>⟨v,List.mem_cons_self ..,λu hu=>by rw [List.mem_singleton.1 hu];exact Nat.le_refl _⟩
 | v::x::l,_=>by
  obtain ⟨w,hw,h1⟩:=Jtl pl (l:=x::l) (by simp);by_cases h:pl v<=pl w
  .refine ⟨v,List.mem_cons_self ..,λu hu=>?_⟩;rcases List.mem_cons.1 hu with rfl|hu
   .exact Nat.le_refl _
   .exact nL h (h1 u hu)
  .refine ⟨w,List.mem_cons_of_mem _ hw,λu hu=>?_⟩;rcases List.mem_cons.1 hu with rfl|hu
   .omega
   .exact h1 u hu
theorem BX.Ok.answers(h:X.Ok){y:List α}(hy:y.length=X.F):
  ((∀ v,v<X.F->y.getD v X.d0∈(X.E v (prj X.d0 (X.K v) y)).map (·.1))/\X.Roots)↔∃ z,X.Join z/\z.take X.F=y:=by
 constructor
 .rintro ⟨hE,hR⟩;obtain ⟨z,G,Z,hg⟩:=h.choose hy hE hR X.N (Nat.le_refl _);have O:∀ v,v<X.N->X.bag v z:=λv o=>(hg v o (.inr om)).1;refine ⟨z,⟨G,λa C=>?_⟩,?_⟩
  .by_cases e:a.1=[]
   .obtain ⟨r,J⟩:=List.exists_mem_of_ne_nil _ (hR.2 a C);have:=(h.al a C).2 r J;rw [e]at this;rw [e,show prj X.d0 [] z=r from (List.eq_nil_of_length_eq_zero this).symm ▸ rfl];exact J
   .obtain ⟨v,o,hm⟩:=Jtl X.pl e;obtain ⟨r,J,h1⟩:=O v ((h.al a C).1 v o) a C;have hl:=(h.al a C).2 r J;have:prj X.d0 a.1 z=r:=by
     apply List.ext_getElem
     .rw [Qfp,hl]
     .intro j h2 U;rw [hl]at U;have:=h1 j U (h.k4 a C v o hm _ (by simp [List.getD,List.getElem?_eq_getElem U]));simp only [List.getD,List.getElem?_eq_getElem U,Option.getD_some]at this;rw [List.getElem?_eq_getElem om,Option.getD_some]at this;simp only [prj,List.getElem_map];rw [this];rfl
    rw [this];exact J
  .apply List.ext_getElem?
   intro j;rw [List.getElem?_take];by_cases hj:j<X.F
   .rw [if_pos hj];have:=Z j hj;have a1:=h.FN;rw [List.getElem?_eq_getElem om,List.getElem?_eq_getElem om];simp only [List.getD]at this;rw [List.getElem?_eq_getElem om,List.getElem?_eq_getElem om]at this;simpa using this
   .rw [if_neg hj,List.getElem?_eq_none om]
 .rintro ⟨z,G,e⟩;obtain ⟨hb,hW⟩:=h.join_W G;refine ⟨λv o=>?_,λv o hp=>?_,λa C he=>?_⟩
  .have a1:=h.FN;have far:∀ u,u<X.F->y.getD u X.d0=z.getD u X.d0:=λu hu=>by rw [<-e];simp [List.getD,hu]
   have ek:prj X.d0 (X.K v) y=prj X.d0 (X.K v) z:=Jvw λu hu=>far u (by
    have:=h.k1 v om u hu;rcases Nat.lt_or_ge u X.F with h'|h'
    .exact h'
    .have:=h.k6 v u o h' this.1;omega)
   rw [ek,far v o];exact List.mem_map.2 ⟨(z.getD v X.d0,X.W v z),((h.t2 v o _).2 _).2 ⟨z,G.1,hb v,rfl,rfl,rfl,(hW v om).1⟩,rfl⟩
  .have:=(hW v o).2;rw [h.kroot o hp]at this;exact this
  .have:=G.2 a C;rw [he]at this;cases this
def BX.ix(X:BX α): AX α:=⟨X.d0,X.F,X.K,X.par,X.E⟩
theorem Jsj(hmn : m ≤ n){g : Nat → Nat}(h : ∀ c, m ≤ c → c < n → g c = 1): Jd n g = Jd m g := by
  induction n with
  | zero => have : m = 0 := by omega
            subst this; rfl
  | succ n ih =>
    by_cases e : m = n + 1
    . rw [e]
    . rw [Jd, h n om om, Nat.mul_one, ih om (fun c h1 h2 => h c h1 om)]
theorem BX.Ok.ixOk(h:X.Ok): X.ix.Ok:=by
 have a5:=h.FN;have kf:∀ v,v<X.F->∀ u∈X.K v,u<v:=λv G u o=>by
  have h1:=h.k1 v om u o;rcases Nat.lt_or_ge u X.F with O|O
  .rcases Nat.lt_trichotomy u v with h3|h3|h3
   .exact h3
   .subst h3;omega
   .have:=h.k5 u v O h3;omega
  .have:=h.k6 v u G O h1.1;omega
 refine ⟨λv G u o=>?_,λv G=>?_,λv G y hy p hp=>?_⟩
 .have J:v<X.F:=G;rcases h.k2 v om with ⟨h1,_⟩|⟨p,O,h3,h4⟩
  .rw [show X.ix.ks v=[] from h1]at o;cases o
  .rw [show X.ix.par v=p from O];have h5:=h4 u o;have h6:=kf v G u o;have h7:=kf v G p h3;rcases Nat.lt_or_ge p u with h8|h8
   .have:=h.k5 u p om h8;omega
   .omega
 .have J:v<X.F:=G;rcases h.k2 v om with ⟨_,O⟩|⟨p,O,h3,_⟩
  .rw [show X.ix.par v = -1 from O];omega
  .rw [show X.ix.par v=p from O];have:=kf v G p h3;omega
 .have J:v<X.F:=G;obtain ⟨z,hz,hb,hk,a2,hw,h0⟩:=((h.t2 v J _).2 p).1 hp;refine ⟨h0,?_⟩;have U:∀ u,u=v∨u∈X.K v->z.getD u X.d0=(y++[p.1]).getD u X.d0:=by
   intro u o;rcases o with rfl|o
   .rw [a2];simp [List.getD,<-hy]
   .rw [Jkw (by rw [hy];exact kf v J u o)];obtain ⟨j,hj,ej⟩:=List.getElem_of_mem o;have:=congrArg (λl=>l.getD j X.d0) hk;rw [Jjb X.d0 hj]at this;have e2:(X.ix.key v y).getD j X.d0=y.getD ((X.K v).getD j 0) X.d0:=Jjb X.d0 hj;rw [e2]at this;rw [<-ej];simpa [List.getD,List.getElem?_eq_getElem hj] using this
  have Z:0<X.W v z:=by rw [<-hw];exact h0
  rw [hw,BX.W];have e3:∀ c,c<X.N->X.par c=v->X.T c (prj X.d0 (X.K c) z)=X.T c (prj X.d0 (X.K c) (y++[p.1])):=λc hc C=>by
   rw [Jvw λu o=>U u ((h.kpar hc C).2.2.2 u o)]
  rw [Jsj a5 (λc a3 a1=>?_)]
  .refine Ym λc hc=>?_;have a4:c<X.F:=hc;show _=if X.par c=v then tot (X.E c (prj X.d0 (X.K c) (y++[p.1]))) else 1
   split
   .rename_i C;rw [e3 c om C,(h.t2 c a4 _).1]
   .rfl
  .by_cases C:X.par c=v
   .have h5:=prodR_pos.1 Z c a1;rw [if_pos C]at h5 ⊢;have:=(h.t1 c a3 a1 (prj X.d0 (X.K c) z)).1;omega
   .rw [if_neg C]
end
def Ue(v:Nat)(nb:Nat->Nat->Bool): Nat->Nat->Bool:=λu x=>if nb v u then (nb u x || nb v x) && (x != u) && (x != v) else nb u x
def Vp(nb:Nat->Nat->Bool): List Nat->Nat->Nat->Bool
 | []=>nb
 | v::l=>Vp (Ue v nb) l
theorem Jtf(nb:Nat->Nat->Bool)(l m:List Nat): Vp nb (l++m)=Vp (Vp nb l) m:=by
 induction l generalizing nb with
 | nil=>rfl
 | cons v l ih=>exact ih _
structure NbInv(l:List Nat)(nb:Nat->Nat->Bool): Prop where
 sym:∀ u x,u ∉ l->x ∉ l->nb u x=nb x u
 gone:∀ u x,u ∉ l->nb u x=true->x ∉ l/\x≠u
theorem NbInv.step{nb:Nat->Nat->Bool}(h:NbInv l nb)(hv:v ∉ l): NbInv (l++[v]) (Ue v nb):=by
 have ns:∀ {u},u ∉ l++[v]->u ∉ l/\u≠v:=λG=>by rw [List.mem_append,List.mem_singleton,not_or]at G;exact G
 constructor
 .intro u x G o;obtain ⟨C,Z⟩:=ns G;obtain ⟨x1,x2⟩:=ns o;have U:=h.sym u x C x1;unfold Ue;by_cases e1:nb v u=true<;>by_cases e2:nb v x=true
  .rw [if_pos e1,if_pos e2,e1,e2,U];have O:(x != v)=true:=bne_iff_ne.2 x2;have b2:(u != v)=true:=bne_iff_ne.2 Z;rw [O,b2];by_cases e:x=u
   .subst e;rfl
   .rw [bne_iff_ne.2 e,bne_iff_ne.2 (λe'=>e e'.symm)]
  .rw [if_pos e1,if_neg e2];have O:(x != v)=true:=bne_iff_ne.2 x2;rw [Bool.not_eq_true]at e2;rw [e2,O,Bool.or_false,Bool.and_true,<-U];cases e3:nb u x with
   | false=>rfl
   | true=>rw [bne_iff_ne.2 (h.gone u x C e3).2];rfl
  .rw [if_neg e1,if_pos e2];have O:(u != v)=true:=bne_iff_ne.2 Z;rw [Bool.not_eq_true]at e1;rw [e1,O,Bool.or_false,Bool.and_true,U];cases e3:nb x u with
   | false=>rfl
   | true=>rw [bne_iff_ne.2 (h.gone x u x1 e3).2];rfl
  .rw [if_neg e1,if_neg e2];exact U
 .intro u x G o;obtain ⟨C,Z⟩:=ns G;unfold Ue at o;rw [List.mem_append,List.mem_singleton,not_or];by_cases e1:nb v u=true
  .rw [if_pos e1]at o;simp only [Bool.and_eq_true,Bool.or_eq_true,bne_iff_ne]at o;refine ⟨⟨?_,o.2⟩,o.1.2⟩;rcases o.1.1 with J|J
   .exact (h.gone u x C J).1
   .exact (h.gone v x hv J).1
  .rw [if_neg e1]at o;obtain ⟨J,h2⟩:=h.gone u x C o;refine ⟨⟨J,λe=>?_⟩,h2⟩;subst e;exact e1 ((h.sym x u J C).trans o)
theorem NbInv.at{nb:Nat->Nat->Bool}(h:NbInv [] nb): ∀ {l:List Nat},l.Nodup->NbInv l (Vp nb l):=by
 intro l;have key:∀ (l m:List Nat) (o:Nat->Nat->Bool),NbInv m o->(m++l).Nodup->NbInv (m++l) (Vp o l):=by
  intro l;induction l with
  | nil=>intro m o h _;rw [List.append_nil];exact h
  | cons v l ih=>
   intro m o h hn;have u:v ∉ m:=by
    rw [List.nodup_append]at hn;exact λC=>hn.2.2 v C v (mC ..) rfl
   have e:m++v::l=(m++[v])++l:=by simp
   rw [e]at hn ⊢;exact ih (m++[v]) _ (h.step u) hn
 intro hn;exact key l [] nb h hn
theorem Jfq{p x:Nat}(hx:x≠p): ∀ {mid:List Nat} {nb:Nat->Nat->Bool},nb p x=true->x ∉ mid->Vp nb mid p x=true
 | [],_,h,_=>h
 | w::mid,nb,h,hm=>by
  rw [Vp];refine Jfq hx ?_ (λh'=>hm (List.mem_cons_of_mem _ h'));have hw:x≠w:=λe=>hm (by rw [e];exact mC ..);unfold Ue;split
  .rw [h,bne_iff_ne.2 hx,bne_iff_ne.2 hw];rfl
  .exact h
def pre(ord:List Nat)(v:Nat): List Nat:=ord.takeWhile (· != v)
def Za(nb:Nat->Nat->Bool)(ord:List Nat)(v u:Nat): Bool:=Vp nb (pre ord v) v u
theorem Jfc(h:v ∉ l): pre (l++v::r) v=l:=by
 induction l with
 | nil=>simp [pre]
 | cons x l ih=>
  have o:(x != v)=true:=bne_iff_ne.2 λe=>h (by rw [e];exact mC ..);unfold pre at ih ⊢;rw [List.cons_append,List.takeWhile_cons,if_pos o,ih (λu=>h (List.mem_cons_of_mem _ u))]
theorem Jvk(h:v∈ord): ∃ r,ord=pre ord v++v::r/\v ∉ pre ord v:=by
 obtain ⟨l,r,e,hn⟩:=List.append_of_mem h |>.elim λl C=>C.elim λr e=>(⟨l,r,e,trivial⟩:∃ l r,ord=l++v::r/\True);clear hn;have:∀ l:List Nat,∃ o,l++v::r=pre (l++v::r) v++v::o/\v ∉ pre (l++v::r) v:=by
  intro l;induction l with
  | nil=>exact ⟨r,by simp [pre],by simp [pre]⟩
  | cons x l ih=>
   by_cases e:x=v
   .subst e;exact ⟨l++x::r,by simp [pre],by simp [pre]⟩
   .obtain ⟨o,J,G⟩:=ih;have u:pre (x::l++v::r) v=x::pre (l++v::r) v:=by
     unfold pre;rw [List.cons_append,List.takeWhile_cons,if_pos (by simpa using e)]
    refine ⟨o,by rw [u,List.cons_append,List.cons_append,<-J],?_⟩;rw [u,List.mem_cons,not_or];exact ⟨λO=>e O.symm,G⟩
 rw [e];exact this l
def Jws(ord:List Nat)(v u:Nat): Prop:=u ∉ pre ord v
section
variable {nb:Nat->Nat->Bool} {ord:List Nat} (h0:NbInv [] nb) (hn:ord.Nodup)
theorem Jsk(hn:ord.Nodup)(v:Nat): (pre ord v).Nodup:=hn.sublist (List.takeWhile_sublist _)
include h0 hn
theorem Jgg(hv:v∈ord)(hk:Za nb ord v u=true): Jws ord v u/\u≠v:=by
 obtain ⟨r,e,o⟩:=Jvk hv;exact (h0.at (Jsk hn v)).gone v u o hk
omit h0 hn in
theorem Jyn(hN:∀ u x,nb u x=true->x<N)(hk:Za nb ord v u=true): u<N:=by
 have:∀ (l:List Nat) (nb:Nat->Nat->Bool),(∀ u x,nb u x=true->x<N)->∀ u x,Vp nb l u x=true->x<N:=by
  intro l;induction l with
  | nil=>intro nb h;exact h
  | cons w l ih=>
   intro nb h;refine ih _ λu x o=>?_;unfold Ue at o;split at o
   .simp only [Bool.and_eq_true,Bool.or_eq_true]at o;rcases o.1.1 with h1|h1<;>exact h _ _ h1
   .exact h _ _ o
 exact this _ _ hN _ _ hk
theorem Qls(hv:v∈ord)(hp:p∈ord)(hkp:Za nb ord v p=true)(hmin:∀ u,Za nb ord v u=true->Jws ord p u)(hkx:Za nb ord v x=true)(hx:x≠p): Za nb ord p x=true:=by
 obtain ⟨r,e,h1⟩:=Jvk hv;obtain ⟨r2,e2,h2⟩:=Jvk hp;have o:=Jgg h0 hn hv hkp;have O:=Jgg h0 hn hv hkx;have Z:v∈pre ord p:=by
  have h3:p∈pre ord v∨v∈pre ord p:=by
   have a1:p∈pre ord v++v::r:=e ▸ hp;rcases List.mem_append.1 a1 with h4|h4
   .exact .inl h4
   .have h5:p∈r:=(List.mem_cons.1 h4).resolve_left o.2;obtain ⟨a,b,eb⟩:=List.append_of_mem h5;have e3:ord=(pre ord v++v::a)++p::b:=by
     have e':=e;rw [eb]at e';rw [List.append_assoc];exact e'
    have h6:p ∉ pre ord v++v::a:=by
     intro h7;rw [e3,List.nodup_append]at hn;exact hn.2.2 p h7 p (mC ..) rfl
    have:=Jfc (r:=b) h6;rw [<-e3]at this;rw [this];exact .inr (List.mem_append_right _ (mC ..))
  exact h3.resolve_left o.1
 obtain ⟨m,m2,J⟩:=List.append_of_mem Z;have hm:m=pre ord v:=by
  have U:v ∉ m:=by
   have:=Jsk hn p;rw [J,List.nodup_append]at this;exact λh'=>this.2.2 v h' v (mC ..) rfl
  have:=Jfc (l:=m) (r:=m2++p::r2) U;rw [<-this];congr 1
  rw [e2,J];simp
 unfold Za;rw [J,Jtf,Vp,hm];refine Jfq hx ?_ λh'=>?_
 .have G:Vp nb (pre ord v) v p=true:=hkp;have C:Vp nb (pre ord v) v x=true:=hkx;unfold Ue;rw [if_pos G,C,bne_iff_ne.2 hx,bne_iff_ne.2 O.2];simp
 .exact hmin x hkx (by rw [J];exact List.mem_append_right _ (List.mem_cons_of_mem _ h'))
omit h0 hn in
theorem Qlt(hb:nb v u=true)(hne:u≠v)(hl:Jws ord v u): Za nb ord v u=true:=Jfq hne hb hl
end
end Pl
namespace Pl
variable {ds:List Bool}{l:List Row}{m n:Nat}{q x y z:Row}{a b:V}
theorem Jhp{ds:List Bool}: ∀ {m:Nat} {x z:Row},x.take m=z.take m->m<x.length->m<z.length->cmpV (x.getD m V0) (z.getD m V0)≠0->Jw x z ds=neg (ds.getD m false) (cmpV (x.getD m V0) (z.getD m V0))
 | 0,a::x,b::z,_,_,_,h=>by
  simp only [List.getD_cons_zero]at h ⊢;simp only [Jw];rw [if_neg h]
 | m+1,a::x,b::z,h,h1,h2,h3=>by
  simp only [List.take_succ_cons,List.cons.injEq]at h;simp only [List.getD_cons_succ]at h3 ⊢;simp only [Jw];rw [if_pos (by rw [h.1];exact Xe b),Jhp h.2 (by simpa using h1) (by simpa using h2) h3];simp [List.getD]
 | _,[],_,_,h,_,_=>by simp at h
 | _,_::_,[],_,_,h,_=>by simp at h
theorem neg_lt{d:Bool}(h:neg d (cmpV a b)<0): cmpV a b≠0:=by
 intro e;rw [e]at h;unfold neg at h;split at h<;>omega
theorem Jyh(d:Bool)(a b:V): neg d (cmpV b a) = - neg d (cmpV a b):=(Jwj d).anti a b
theorem Qrn(h:x.take m=z.take m)(h1:m<x.length)(h2:m<z.length)(h3:neg (ds.getD m false) (cmpV (x.getD m V0) (z.getD m V0))<0): Jw x z ds<0:=by
 rw [Jhp h h1 h2 (neg_lt h3)];exact h3
def Iv(d:Bool)(l:List (V×Nat)): Prop:=l.Pairwise λp q=>neg d (cmpV p.1 q.1)<0
abbrev IX:= AX V
structure AX.Srt(X:IX)(ds:List Bool): Prop where
 d0:X.d0=V0
 srt:∀ v,v<X.F->∀ k,Iv (ds.getD v false) (X.E v k)
theorem AX.ext_at_col{X:IX}(hx:x∈X.ext n (y++[a])): x.length=y.length+1+n/\x.take y.length=y/\x.getD y.length V0=a:=by
 obtain ⟨u,o,_⟩:=(AX.ext_mem n _ x).1 hx;rw [List.length_append,List.length_singleton]at u o;refine ⟨u,?_,?_⟩
 .have:=congrArg (List.take y.length) o;rw [List.take_take,Nat.min_eq_left om,List.take_append_of_le_length (Nat.le_refl _),List.take_length]at this;exact this
 .have:=congrArg (λl=>l.getD y.length V0) o;simpa [List.getD] using this
theorem AX.Srt.ext{X:IX}{ds:List Bool}(h:X.Srt ds): ∀ (n:Nat) (y:Row),y.length+n=X.F->Lt ds (X.ext n y)
 | 0,y,_=>List.pairwise_singleton _ _
 | n+1,y,e=>by
  rw [AX.ext];refine List.pairwise_flatMap.2 ⟨λp _=>h.ext n _ (by simp;omega),(h.srt y.length om _).imp fun {p q} hpq x hx z hz=>?_⟩;obtain ⟨h1,h2,h3⟩:=AX.ext_at_col hx;obtain ⟨h4,h5,h6⟩:=AX.ext_at_col hz;exact Qrn (m:=y.length) (by rw [h2,h5]) om om (by rw [h3,h6];exact hpq)
def bef(d:Bool)(v:V): List (V×Nat)->Nat
 | []=>0
 | p::l=>(if neg d (cmpV p.1 v)<0 then p.2 else 0)+bef d v l
def Qy(ds:List Bool)(l:List Row)(q:Row): Nat:=(l.filter λx=>decide (Jw (x.take q.length) q ds<0)).length
theorem Qrg(ds:List Bool)(l m:List Row)(q:Row): Qy ds (l++m) q=Qy ds l q+Qy ds m q:=by simp [Qy]
theorem Qrh(h:∀ x∈l,Jw (x.take q.length) q ds<0): Qy ds l q=l.length:=by
 unfold Qy;rw [List.filter_eq_self.2 λx o=>by simpa using h x o]
theorem Qxs(h:∀ x∈l,¬ Jw (x.take q.length) q ds<0): Qy ds l q=0:=by
 unfold Qy;rw [List.filter_eq_nil_iff.2 λx o=>by simpa using h x o];rfl
theorem cmpR_col'(h:x.take m=q.take m)(h1:q.length<=x.length)(h2:m<q.length)(h3:cmpV (x.getD m V0) (q.getD m V0)≠0): Jw (x.take q.length) q ds=neg (ds.getD m false) (cmpV (x.getD m V0) (q.getD m V0)):=by
 have e:(x.take q.length).getD m V0=x.getD m V0:=by simp [List.getD,h2]
 rw [Jhp (m:=m) (by rw [List.take_take,Nat.min_eq_left om];exact h) (by rw [List.length_take];omega) h2 (by rw [e];exact h3),e]
theorem AX.Srt.cnt_step{X:IX}(h:X.Srt ds)(hok:X.Ok)(e:y.length+(n+1)=X.F)(hq:q.length<=X.F)(hm:y.length<q.length)(hy:q.take y.length=y):
  Qy ds (X.ext (n+1) y) q=bef (ds.getD y.length false) (q.getD y.length V0) (X.E y.length (X.key y.length y))*X.others y.length y +
   (if q.getD y.length V0∈(X.E y.length (X.key y.length y)).map (·.1) then Qy ds (X.ext n (y++[q.getD y.length V0])) q else 0):=by
 have hF:y.length<X.F:=om
 have hb:∀ p∈X.E y.length (X.key y.length y),(X.ext n (y++[p.1])).length=p.2*X.others y.length y:=λp Z=>by
  rw [hok.ext_len n (y++[p.1]) (by simp;omega),List.length_append,List.length_singleton,hok.pend_next hF Z]
 have hs:=h.srt y.length hF (X.key y.length y);rw [AX.ext];generalize X.others y.length y=O at *
 generalize X.E y.length (X.key y.length y)=l at *
 have one:∀ p:V×Nat,(X.ext n (y++[p.1])).length=p.2*O->p.1≠q.getD y.length V0->Qy ds (X.ext n (y++[p.1])) q=(if neg (ds.getD y.length false) (cmpV p.1 (q.getD y.length V0))<0 then p.2 else 0)*O:=by
  intro p hl a1;have hc:∀ x∈X.ext n (y++[p.1]),Jw (x.take q.length) q ds=neg (ds.getD y.length false) (cmpV p.1 (q.getD y.length V0)):=λx o=>by
   obtain ⟨h1,h2,h3⟩:=AX.ext_at_col o;rw [cmpR_col' (m:=y.length) (by rw [h2,hy]) om hm (by rw [h3];intro e;exact a1 (cmp_V.zero _ _ e)),h3]
  by_cases e:neg (ds.getD y.length false) (cmpV p.1 (q.getD y.length V0))<0
  .rw [if_pos e,Qrh (λx o=>by rw [hc x o];exact e),hl]
  .rw [if_neg e,Qxs (λx o=>by rw [hc x o];exact e),Nat.zero_mul]
 induction l with
 | nil=>simp [bef,Qy]
 | cons p l ih=>
  obtain ⟨J,G⟩:=List.pairwise_cons.1 hs;have C:=ih G (λr U=>hb r (List.mem_cons_of_mem _ U));have Z:=hb p (mC ..);rw [List.flatMap_cons,Qrg,C,bef,Nat.add_mul];by_cases e:p.1=q.getD y.length V0
  .have h0:neg (ds.getD y.length false) (cmpV p.1 (q.getD y.length V0))=0:=by rw [e,Xe];unfold neg;split<;>rfl
   have hn:¬ q.getD y.length V0∈l.map (·.1):=by
    intro u;obtain ⟨r,U,er⟩:=List.mem_map.1 u;have:=J r U;rw [er,<-e,Xe]at this;unfold neg at this;split at this<;>omega
   rw [if_neg hn,if_pos (show q.getD y.length V0∈(p::l).map (·.1) from by rw [<-e];exact List.mem_map_of_mem (mC ..)),if_neg (show ¬ neg (ds.getD y.length false) (cmpV p.1 (q.getD y.length V0))<0 by rw [h0];omega),e]
   omega
  .rw [one p Z e];have:(q.getD y.length V0∈(p::l).map (·.1))↔q.getD y.length V0∈l.map (·.1):=by
    rw [List.map_cons,List.mem_cons];exact ⟨λh'=>h'.resolve_left λe'=>e e'.symm,.inr⟩
   by_cases e2:q.getD y.length V0∈l.map (·.1)
   .rw [if_pos e2,if_pos (this.2 e2)];omega
   .rw [if_neg e2,if_neg (λh'=>e2 (this.1 h'))];omega
theorem AX.cnt_end{X:IX}: Qy ds (X.ext n q) q=0:=Qxs λx o=>by
 rw [((AX.ext_mem n q x).1 o).2.1,Va];omega
end Pl
namespace Pl
inductive Tr where
 | nil
 | node (l:Tr) (v:V) (x:Nat) (r:Tr)
namespace Tr
def ht: Tr->Nat
 | .nil=>0
 | .node l _ _ r=>max l.ht r.ht+1
def sz: Tr->Nat
 | .nil=>0
 | .node l _ _ r=>l.sz+1+r.sz
def sum: Tr->Nat
 | .nil=>0
 | .node l _ x r=>l.sum+x+r.sum
def toL: Tr->List (V×Nat)
 | .nil=>[]
 | .node l v x r=>l.toL++(v,x)::r.toL
theorem sum_eq: ∀ t:Tr,t.sum=tot t.toL
 | .nil=>rfl
 | .node l v x r=>by rw [sum,toL,Jzs,tot,sum_eq l,sum_eq r];simp only;omega
theorem sz_eq: ∀ t:Tr,t.sz=t.toL.length
 | .nil=>rfl
 | .node l v x r=>by rw [sz,toL,List.length_append,List.length_cons,sz_eq l,sz_eq r];omega
theorem ht_le: ∀ t:Tr,t.ht<=t.sz
 | .nil=>Nat.le_refl _
 | .node l v x r=>by have:=ht_le l;have:=ht_le r;simp only [ht,sz];omega
def left: Tr->Tr
 | .nil=>.nil
 | .node l _ _ _=>l
def right: Tr->Tr
 | .nil=>.nil
 | .node _ _ _ r=>r
def bal(l:Tr)(v:V)(x:Nat)(r:Tr): Tr :=
 if r.ht+1<l.ht then
  match l with
  | .nil=>.node .nil v x r
  | .node ll lv lx lr=>
   if lr.ht<=ll.ht then .node ll lv lx (.node lr v x r)
   else match lr with
    | .nil=>.node (.node ll lv lx .nil) v x r
    | .node ml mv mx mr=>.node (.node ll lv lx ml) mv mx (.node mr v x r)
 else if l.ht+1<r.ht then
  match r with
  | .nil=>.node l v x .nil
  | .node rl rv rx rr=>
   if rl.ht<=rr.ht then .node (.node l v x rl) rv rx rr
   else match rl with
    | .nil=>.node l v x (.node .nil rv rx rr)
    | .node ml mv mx mr=>.node (.node l v x ml) mv mx (.node mr rv rx rr)
 else .node l v x r
theorem toL_bal(l:Tr)(v:V)(x:Nat)(r:Tr): (bal l v x r).toL=l.toL++(v,x)::r.toL:=by
 unfold bal;split
 .cases l with
  | nil=>rfl
  | node ll lv lx lr=>
   simp only;split
   .simp [toL]
   .cases lr<;>simp [toL]
 .split
  .cases r with
   | nil=>rfl
   | node rl rv rx rr=>
    simp only;split
    .simp [toL]
    .cases rl<;>simp [toL]
  .rfl
def put(d:Bool)(v:V)(x:Nat): Tr->Tr
 | .nil=>.node .nil v x .nil
 | .node l a y r=>if neg d (cmpV v a)<0 then bal (put d v x l) a y r else if 0<neg d (cmpV v a) then bal l a y (put d v x r) else .node l v x r
theorem put_last{d:Bool}{v:V}{x:Nat}: ∀ {t:Tr},(∀ p∈t.toL,0<neg d (cmpV v p.1))->(put d v x t).toL=t.toL++[(v,x)]
 | .nil,_=>rfl
 | .node l a y r,h=>by
  have h1:=h (a,y) (by simp [toL]);have h2:=put_last (d:=d) (v:=v) (x:=x) (t:=r) (λp hp=>h p (by simp [toL,hp]));simp only at h1;rw [put,if_neg om,if_pos h1,toL_bal,h2];simp [toL]
theorem put_first{d:Bool}{v:V}{x:Nat}: ∀ {t:Tr},(∀ p∈t.toL,neg d (cmpV v p.1)<0)->(put d v x t).toL=(v,x)::t.toL
 | .nil,_=>rfl
 | .node l a y r,h=>by
  have h1:=h (a,y) (by simp [toL]);have h2:=put_first (d:=d) (v:=v) (x:=x) (t:=l) (λp hp=>h p (by simp [toL,hp]));simp only at h1;rw [put,if_pos h1,toL_bal,h2];simp [toL]
theorem Qkl(l:Tr)(v:V)(x:Nat)(r:Tr): (bal l v x r).sz=l.sz+1+r.sz:=by rw [sz_eq,toL_bal,List.length_append,List.length_cons,sz_eq l,sz_eq r];omega
theorem put_sz(d:Bool)(v:V)(x:Nat): ∀ t:Tr,(put d v x t).sz<=t.sz+1
 | .nil=>Nat.le_refl _
 | .node l a y r=>by
  have h1:=put_sz d v x l;have h2:=put_sz d v x r;unfold put;split
  .rw [Qkl,sz];omega
  .split
   .rw [Qkl,sz];omega
   .rw [sz,sz];omega
def befT(d:Bool)(v:V): Tr->Nat
 | .nil=>0
 | .node l a y r=>if neg d (cmpV v a)<0 then befT d v l else if neg d (cmpV v a)=0 then l.sum else l.sum+y+befT d v r
def hasT(d:Bool)(v:V): Tr->Bool
 | .nil=>false
 | .node l a y r=>if neg d (cmpV v a)<0 then hasT d v l else if neg d (cmpV v a)=0 then true else hasT d v r
theorem Qtp(d:Bool)(v:V)(l m:List (V×Nat)): bef d v (l++m)=bef d v l+bef d v m:=by
 induction l with
 | nil=>simp [bef]
 | cons p l ih=>rw [List.cons_append,bef,bef,ih,Nat.add_assoc]
theorem Jhx{d:Bool}{v:V}: ∀ {l:List (V×Nat)},(∀ p∈l,neg d (cmpV p.1 v)<0)->bef d v l=tot l
 | [],_=>rfl
 | p::l,h=>by rw [bef,tot,if_pos (h p (mC ..)),Jhx λq hq=>h q (List.mem_cons_of_mem _ hq)]
theorem Jhw{d:Bool}{v:V}: ∀ {l:List (V×Nat)},(∀ p∈l,¬ neg d (cmpV p.1 v)<0)->bef d v l=0
 | [],_=>rfl
 | p::l,h=>by rw [bef,if_neg (h p (mC ..)),Jhw λq hq=>h q (List.mem_cons_of_mem _ hq)]
theorem befT_eq{d:Bool}{v:V}: ∀ {t:Tr},Iv d t.toL->befT d v t=bef d v t.toL/\(hasT d v t=true↔v∈t.toL.map (·.1))
 | .nil,_=>⟨rfl,by simp [hasT,toL]⟩
 | .node l a y r,h=>by
  have N:=Jwj d;obtain ⟨h1,h2,h3⟩:=List.pairwise_append.1 h;obtain ⟨h4,h5⟩:=List.pairwise_cons.1 h2;have il:=befT_eq (v:=v) h1;have ir:=befT_eq (v:=v) h5;have hla:∀ p∈l.toL,neg d (cmpV p.1 a)<0:=λp hp=>h3 p hp (a,y) (mC ..);have hva:=Jyh d v a;rw [toL,befT,hasT,Qtp,bef];by_cases c1:neg d (cmpV v a)<0
  .have hr:∀ p∈r.toL,¬ neg d (cmpV p.1 v)<0:=λp hp h'=>by
    have:=N.trans p.1 v a om om;have:=h4 p hp;have:=Jyh d a p.1;simp only at *;omega
   rw [if_pos c1,if_pos c1,il.1,Jhw hr,if_neg (by simp only;omega)];refine ⟨om,?_⟩;rw [il.2,List.map_append,List.mem_append,List.map_cons,List.mem_cons];constructor
   .exact .inl
   .rintro (h'|rfl|h')
    .exact h'
    .rw [Xe]at c1;unfold neg at c1;split at c1<;>omega
    .obtain ⟨p,hp,rfl⟩:=List.mem_map.1 h';have:=h4 p hp;have:=Jyh d a p.1;simp only at *;omega
  .rw [if_neg c1,if_neg c1];by_cases c0:neg d (cmpV v a)=0
   .have e:v=a:=N.zero v a c0;subst e;have hr:∀ p∈r.toL,¬ neg d (cmpV p.1 v)<0:=λp hp h'=>by
     have:=h4 p hp;have:=Jyh d v p.1;simp only at *;omega
    rw [if_pos c0,if_pos c0,Jhx hla,Jhw hr,if_neg (by simp only;omega),sum_eq];exact ⟨om,by simp⟩
   .rw [if_neg c0,if_neg c0];have hl:∀ p∈l.toL,neg d (cmpV p.1 v)<0:=λp hp=>by
     have h1:=hla p hp;have h2:=N.trans p.1 a v om om;have h3:neg d (cmpV p.1 v)≠0:=λe=>by
      have:=N.zero p.1 v e;rw [this]at h1;omega
     simp only at *;omega
    rw [Jhx hl,if_pos (by simp only;omega),ir.1,sum_eq];refine ⟨by simp only;omega,?_⟩;rw [ir.2,List.map_append,List.mem_append,List.map_cons,List.mem_cons];constructor
    .exact λh'=>.inr (.inr h')
    .rintro (h'|rfl|h')
     .obtain ⟨p,hp,rfl⟩:=List.mem_map.1 h';have:=hl p hp;rw [Xe]at this;unfold neg at this;split at this<;>omega
     .exact absurd (by rw [Xe];unfold neg;split<;>rfl) c0
     .exact h'
def findT(k:Nat): Tr->V×Nat
 | .nil=>(V0,0)
 | .node l a y r=>if k<l.sum then findT k l else if l.sum+y<=k then ((findT (k-(l.sum+y)) r).1,l.sum+y+(findT (k-(l.sum+y)) r).2) else (a,l.sum)
theorem findT_eq: ∀ {t:Tr} {k:Nat},k<t.sum->∃ l1 l2 y,t.toL=l1++((findT k t).1,y)::l2/\tot l1=(findT k t).2/\(findT k t).2<=k/\k<(findT k t).2+y
 | .nil,k,h=>by simp [sum]at h
 | .node l a y r,k,h=>by
  rw [sum]at h;rw [findT,toL];split
  .rename_i h1;obtain ⟨l1,l2,z,e1,e2,e3,e4⟩:=findT_eq h1;exact ⟨l1,l2++(a,y)::r.toL,z,by rw [e1];simp,e2,e3,e4⟩
  .split
   .rename_i h1 h2;obtain ⟨l1,l2,z,e1,e2,e3,e4⟩:=findT_eq (t:=r) (k:=k-(l.sum+y)) om;refine ⟨l.toL++(a,y)::l1,l2,z,?_,?_,?_,?_⟩
    .simp only;rw [List.append_assoc,List.cons_append,<-e1]
    .rw [Jzs,tot,e2,sum_eq];simp only;omega
    .simp only;omega
    .simp only;omega
   .exact ⟨l.toL,r.toL,y,rfl,(sum_eq l).symm,by simp only;omega,by simp only;omega⟩
end Tr
end Pl
namespace Pl
variable {d:Bool}{l:List (V×Nat)}{rs:List Row}{m:Nat}{k x:Row}{wt:Row->Nat}{p:V×Nat}
def Qo(wt:Row->Nat)(m:Nat)(rs:List Row)(k:Row): List (V×Nat):=(rs.filter λx=>decide (x.take m=k) && decide (0<wt x)).map λx=>(x.getD m V0,wt x)
def stepG(d:Bool)(wt:Row->Nat)(m:Nat)(bs:List (Row×Tr))(x:Row): List (Row×Tr) :=
 if wt x=0 then bs
 else if (bs.getLast?.map (·.1))=some (x.take m) then bs.dropLast++[(x.take m,Tr.put d (x.getD m V0) (wt x) ((bs.getLast?.map (·.2)).getD .nil))]
 else bs++[(x.take m,Tr.put d (x.getD m V0) (wt x) .nil)]
def Vc(d:Bool)(l:List (V×Nat)): List (V×Nat):=if d then l.reverse else l
structure GInv(d:Bool)(wt:Row->Nat)(m:Nat)(rs:List Row)(bs:List (Row×Tr)): Prop where
 lt:Lt [] (bs.map (·.1))
 con:∀ b∈bs,b.2.toL=Vc d (Qo wt m rs b.1)/\Qo wt m rs b.1≠[]
 all:∀ k,Qo wt m rs k≠[]->k∈bs.map (·.1)
theorem Jhc(wt:Row->Nat)(m:Nat)(rs:List Row)(x k:Row): Qo wt m (rs++[x]) k=Qo wt m rs k++if x.take m=k/\0<wt x then [(x.getD m V0,wt x)] else []:=by
 unfold Qo;rw [List.filter_append,List.map_append];congr 1
 by_cases h:x.take m=k/\0<wt x
 .rw [if_pos h,List.filter_cons_of_pos (by simp [h]),List.filter_nil];rfl
 .rw [if_neg h,List.filter_cons_of_neg (by simpa using h),List.filter_nil];rfl
theorem entL_mem: p∈Qo wt m rs k↔∃ x∈rs,x.take m=k/\x.getD m V0=p.1/\wt x=p.2/\0<p.2:=by
 unfold Qo;rw [List.mem_map];constructor
 .rintro ⟨x,u,rfl⟩;obtain ⟨C,o⟩:=List.mem_filter.1 u;simp only [Bool.and_eq_true,decide_eq_true_eq]at o;exact ⟨x,C,o.1,rfl,rfl,o.2⟩
 .rintro ⟨x,u,C,o,G,J⟩;refine ⟨x,List.mem_filter.2 ⟨u,by simp [C,G,J]⟩,?_⟩;rw [o,G]
theorem entL_ne: Qo wt m rs k≠[]↔∃ x∈rs,x.take m=k/\0<wt x:=by
 constructor
 .intro h;obtain ⟨p,G⟩:=List.exists_mem_of_ne_nil _ h;obtain ⟨x,u,o,C,O,J⟩:=entL_mem.1 G;exact ⟨x,u,o,om⟩
 .rintro ⟨x,u,o,C⟩ e;have:=(entL_mem (p:=(x.getD m V0,wt x))).2 ⟨x,u,o,rfl,rfl,C⟩;rw [e]at this;cases this
theorem Qxw: ∀ (m:Nat) {x y:Row},Jw x y []<0->Jw (x.take m) (y.take m) []<=0
 | 0,x,y,_=>by simp [Jw]
 | m+1,[],[],h=>by simp [Jw]
 | m+1,[],b::y,h=>by simp [Jw]
 | m+1,a::x,[],h=>by simp [Jw]at h
 | m+1,a::x,b::y,h=>by
  simp only [Jw,List.take_succ_cons,List.drop_nil]at h ⊢;by_cases e:cmpV a b=0
  .rw [if_pos e]at h ⊢;exact Qxw m h
  .rw [if_neg e]at h ⊢;omega
theorem Jhn: ∀ (m:Nat) {x y:Row},Jw x y []<0->x.take m=y.take m->x.length=m+1->y.length=m+1->cmpV (x.getD m V0) (y.getD m V0)<0
 | 0,[a],[b],h,_,_,_=>by
  simp only [Jw]at h;by_cases e:cmpV a b=0
  .rw [if_pos e]at h;omega
  .rw [if_neg e]at h;exact h
 | m+1,a::x,b::y,h,ht,h1,h2=>by
  simp only [List.take_succ_cons,List.cons.injEq]at ht;simp only [Jw,List.drop_nil]at h;rw [if_pos (by rw [ht.1];exact Xe b)]at h;simp only [List.getD_cons_succ];exact Jhn m h ht.2 (by simpa using h1) (by simpa using h2)
theorem Jyz{α:Type}{l:List α}(h:l≠[]): ∃ i z,l=i++[z]/\l.getLast?=some z/\l.dropLast=i:=by
 refine ⟨l.dropLast,l.getLast h,(List.dropLast_concat_getLast h).symm,List.getLast?_eq_some_getLast h,rfl⟩
theorem GInv.step{bs:List (Row×Tr)}(h:GInv d wt m rs bs)(hs:Lt [] (rs++[x]))(hl:∀ y∈rs++[x],y.length=m+1): GInv d wt m (rs++[x]) (stepG d wt m bs x):=by
 have a6:=hl x (by simp);have a3:∀ y∈rs,Jw y x []<0:=λy hy=>(List.pairwise_append.1 hs).2.2 y hy x (by simp);by_cases h0:wt x=0
 .have e:∀ k,Qo wt m (rs++[x]) k=Qo wt m rs k:=λk=>by rw [Jhc,if_neg om,List.append_nil]
  rw [stepG,if_pos h0];exact ⟨h.lt,λb u=>by rw [e];exact h.con b u,λk o=>h.all k (by rw [<-e k];exact o)⟩
 have h1:0<wt x:=om
 have eo:∀ k,k≠x.take m->Qo wt m (rs++[x]) k=Qo wt m rs k:=λk o=>by rw [Jhc,if_neg (λU=>o U.1.symm),List.append_nil]
 have ex:Qo wt m (rs++[x]) (x.take m)=Qo wt m rs (x.take m)++[(x.getD m V0,wt x)]:=by rw [Jhc,if_pos ⟨rfl,h1⟩]
 have J:∀ k∈bs.map (·.1),Jw k (x.take m) []<=0:=λk o=>by
  obtain ⟨b,u,rfl⟩:=List.mem_map.1 o;obtain ⟨y,hy,e,_⟩:=entL_ne.1 (h.con b u).2;rw [<-e];exact Qxw m (a3 y hy)
 have O:∀ p∈Qo wt m rs (x.take m),cmpV p.1 (x.getD m V0)<0:=λp Z=>by
  obtain ⟨y,hy,C,e2,_⟩:=entL_mem.1 Z;rw [<-e2];exact Jhn m (a3 y hy) C (hl y (by simp [hy])) a6
 have G:∀ t:Tr,t.toL=Vc d (Qo wt m rs (x.take m))->(Tr.put d (x.getD m V0) (wt x) t).toL=Vc d (Qo wt m (rs++[x]) (x.take m)):=λt ht=>by
  rw [ex];cases d with
  | false=>
   rw [Tr.put_last,ht];· rfl
   intro p Z;rw [ht]at Z;have:=O p Z;have:=cmp_V.anti p.1 (x.getD m V0);simp only [neg];rw [if_neg (by simp)];omega
  | true=>
   rw [Tr.put_first,ht];· simp [Vc]
   intro p Z;rw [ht]at Z;have:=O p (by simpa [Vc] using Z);have:=cmp_V.anti p.1 (x.getD m V0);simp only [neg];rw [if_pos trivial];omega
 rw [stepG,if_neg h0];by_cases hl2:(bs.getLast?.map (·.1))=some (x.take m)
 .rw [if_pos hl2];have a2:bs≠[]:=by intro e;rw [e]at hl2;cases hl2
  obtain ⟨i,z,C,e2,e3⟩:=Jyz a2;rw [e2]at hl2 ⊢;have hz:z.1=x.take m:=by simpa using hl2
  rw [e3];have a5:=h.con z (by rw [C];simp);have a7:∀ b∈i,b.1≠x.take m:=λb u e=>by
   have:=h.lt;rw [C,List.map_append]at this;have:=(List.pairwise_append.1 this).2.2 b.1 (List.mem_map_of_mem u) z.1 (by simp);rw [hz,e,Va]at this;omega
  refine ⟨?_,λb u=>?_,λk o=>?_⟩
  .have:=h.lt;rw [C]at this;simpa [hz] using this
  .rcases List.mem_append.1 u with u|u
   .rw [eo _ (a7 b u)];exact h.con b (by rw [C];simp [u])
   .rw [List.mem_singleton.1 u];refine ⟨G _ (by rw [<-hz];simpa using a5.1),?_⟩;simp only;rw [ex];simp
  .by_cases e:k=x.take m
   .rw [e];simp
   .rw [eo k e]at o;have:=h.all k o;rw [C,List.map_append,List.mem_append]at this;rcases this with U|U
    .rw [List.map_append,List.mem_append];exact .inl U
    .rw [List.map_singleton,List.mem_singleton,hz]at U;exact absurd U e
 .rw [if_neg hl2];have a1:x.take m ∉ bs.map (·.1):=λo=>by
   have a2:bs≠[]:=by intro e;rw [e]at o;cases o
   obtain ⟨i,z,C,e2,e3⟩:=Jyz a2;rw [e2]at hl2;have hz:z.1≠x.take m:=λe=>hl2 (by simp [e]);rw [C,List.map_append,List.mem_append]at o;have h5:=h.lt;rw [C,List.map_append]at h5;rcases o with o|o
   .have h6:=(List.pairwise_append.1 h5).2.2 _ o z.1 (by simp);have h7:=J z.1 (by rw [C];simp);have:=Gz [] |>.anti (x.take m) z.1;omega
   .rw [List.map_singleton,List.mem_singleton]at o;exact hz o.symm
  have he:Qo wt m rs (x.take m)=[]:=Classical.byContradiction λU=>a1 (h.all _ U);refine ⟨?_,λb u=>?_,λk o=>?_⟩
  .rw [List.map_append];refine List.pairwise_append.2 ⟨h.lt,by simp,λk o k' a4=>?_⟩;rw [List.map_singleton,List.mem_singleton]at a4;rw [a4];have h7:=J k o;have h8:Jw k (x.take m) []≠0:=λe=>a1 (by rw [<-(Gz []).zero _ _ e];exact o);simp only;omega
  .rcases List.mem_append.1 u with u|u
   .have a8:b.1∈bs.map (·.1):=List.mem_map_of_mem u
    rw [eo _ (λe=>a1 (by rw [<-e];exact a8))];exact h.con b u
   .rw [List.mem_singleton.1 u];refine ⟨G _ (by rw [he];cases d<;>rfl),?_⟩;simp only;rw [ex];simp
  .by_cases e:k=x.take m
   .rw [e];simp
   .rw [eo k e]at o;rw [List.map_append,List.mem_append];exact .inl (h.all k o)
theorem GInv.nil(d:Bool)(wt:Row->Nat)(m:Nat): GInv d wt m [] []:=⟨List.Pairwise.nil,λb u=>(by cases u),λk o=>absurd rfl o⟩
def entK(bs:List (Row×Tr))(k:Row): List (V×Nat):=match bs.find? λb=>decide (b.1=k) with
 | some b=>b.2.toL
 | none=>[]
theorem GInv.entK{d:Bool}{wt:Row->Nat}{m:Nat}{rs:List Row}{bs:List (Row×Tr)}(h:GInv d wt m rs bs)(k:Row): entK bs k=Vc d (Qo wt m rs k):=by
 unfold Pl.entK;cases hf:bs.find? λb=>decide (b.1=k) with
 | some b=>
  have o:=List.mem_of_find?_eq_some hf;have u:=List.find?_some hf;simp only [decide_eq_true_eq]at u;simp only;rw [<-u];exact (h.con b o).1
 | none=>
  have o:=List.find?_eq_none.1 hf;have:Qo wt m rs k=[]:=Classical.byContradiction λG=>by
   obtain ⟨b,C,e⟩:=List.mem_map.1 (h.all k G);exact o b C (by simpa using e)
  rw [this];cases d<;>rfl
theorem Qnw(hs:Lt [] rs)(hl:∀ y∈rs,y.length=m+1)(k:Row): (Qo wt m rs k).Pairwise λp q=>cmpV p.1 q.1<0:=by
 unfold Qo;rw [List.pairwise_map];refine List.Pairwise.imp_of_mem (R:=λx y:Row=>Jw x y []<0) (fun {x y} hx hy h=>?_) (hs.sublist List.filter_sublist);obtain ⟨G,u⟩:=List.mem_filter.1 hx;obtain ⟨C,o⟩:=List.mem_filter.1 hy;simp only [Bool.and_eq_true,decide_eq_true_eq]at u o;exact Jhn m h (by rw [u.1,o.1]) (hl x G) (hl y C)
theorem Qpk(h:l.Pairwise λp q=>cmpV p.1 q.1<0): Iv d (Vc d l):=by
 cases d with
 | false=>exact h.imp λo=>by simp only [neg];rw [if_neg (by simp)];exact o
 | true=>
  simp only [Vc,if_true,Iv];rw [List.pairwise_reverse];refine h.imp fun {p q} o=>?_
  have:=cmp_V.anti p.1 q.1;simp only [neg];rw [if_pos trivial];omega
theorem Qqz: p∈Vc d l↔p∈l:=by cases d<;>simp [Vc]
theorem Jbh(d:Bool)(l:List (V×Nat)): tot (Vc d l)=tot l:=by
 cases d with
 | false=>rfl
 | true=>
  simp only [Vc,if_true];induction l with
  | nil=>rfl
  | cons p l ih=>rw [List.reverse_cons,Jzs,ih,tot,tot,tot];omega
end Pl
open Go.RowKit Pl Go.Wk
attribute [local irreducible] WC WL QX WD WDB WP WN
variable {c:JC}{l:List Row}{Y:List Row->World->Prop}{L e p:Nat->Nat}{f h:Nat->Nat->Nat}{x z:Row}{w:World}
structure Pth(c:JC)(v:Nat)(z:Row)(p e:Nat->Nat): Prop where
 path:∀ i,i<c.m->Yy (c.F.rs i) (lv (c.vars i) v) (p i)=(pmR (c.vars i) z).take (lv (c.vars i) v)
 rng:∀ i,i<c.m->0<lv (c.vars i) v->p i<e i/\e i<=(pfx (c.F.rs i) (lv (c.vars i) v)).length
def Qws(c:JC)(Y:List Row->World->Prop)(v:Nat)(z:Row)(p e:Nat->Nat)(f h:Nat->Nat->Nat)(l:List Row)(w:World)(u:Value)(w':World): Prop :=
 u=.bool true/\GrN c.N w w'/\∃ z' f' h' l',Cfg c Y w' z' (λi=>lv (c.vars i) v) p e f' h' l'/\z'.take v=z.take v/\(∀ i,i<c.m->∀ k,k<lv (c.vars i) v->f' i k=f i k/\h' i k=h i k)/\Lt [] l'/\∀ x,x∈l'↔x∈l∨(c.Ans x/\x.take v=z.take v)
theorem Cfg.rowV(H:Cfg c Y w z L p e f h l)(hok:JOk c): RowV w c.rowv z:=by
 have o:=H.row;have u:=hok.n32;refine ⟨c.Ra,c.n,by rw [H.zl];rfl,by rw [H.zl];exact Nat.le_refl _,by rw [H.zl];omega,?_⟩;rw [Zs,H.zl]at o;rw [RdR,H.zl];exact Rd.own o
theorem Pth.ans(h:Pth c c.n z p e)(hok:JOk c)(hz:z.length=c.n): c.Ans z:=by
 refine ⟨hz,λi hi=>?_⟩;have O:=h.path i hi;have J:=Jtw (hok.lt i hi);rw [J,List.take_of_length_le (by rw [Qr];exact Nat.le_refl _)]at O;rw [<-O];have G:=hok.d i hi;by_cases h0:(c.vars i).length=0
 .rw [Yy,if_pos h0];obtain ⟨r,o⟩:=List.exists_mem_of_ne_nil _ (hok.ne i hi);have:=hok.len i hi r o;rw [G,h0]at this;rw [List.eq_nil_of_length_eq_zero this]at o;exact o
 .rw [Yy,if_neg h0];have C:=h.rng i hi om;rw [J]at C;have u:=Qfw (hok.srt i hi) (hok.len i hi);rw [G]at u;rw [u]at C ⊢;exact getD_mem' [] _ om
theorem Qbk{n:Nat}(h1:x.length=n)(h2:z.length=n)(h:x.take n=z.take n): x=z:=by
 rwa [List.take_of_length_le om,List.take_of_length_le om]at h
theorem Qnq{NY:Nat->Prop}(hok:JOk c)(hY:YC c Y NY)(hcap:∀ l:List Row,Lt [] l->(∀ x∈l,c.Ans x)->l.length<=65536)(H:Cfg c Y w z (λi=>lv (c.vars i) c.n) p e f h l)(hP:Pth c c.n z p e)(hl:Lt [] l)(hla:∀ x∈l,c.Ans x)(hls:∀ x∈l,∀ z',c.Ans z'->z'.take c.n=z.take c.n->Jw x z' []<0):
  Ret Tryz.prog 205 [.pointer (some ⟨c.J,0,none⟩),.int .i64 (c.n:Int)] w (Qws c Y c.n z p e f h l w):=by
 have o:=hP.ans hok H.zl;obtain ⟨st,hJ⟩:=H.jb;have aa:=hok.n32;obtain ⟨ab,first,ac,a1,U⟩:=hY.call;have a2:c.rowv=.slice c.Ra c.n c.n:=rfl;rw [a2,a1]at hJ;refine Jz Tryz.func205 Tryz.ntmps205 rfl kr rfl ?_;refine ρ ?_;refine ld (hJ.at (i:=0) rfl) ?_;refine ρ ?_;refine ct ?_ ?_
 .exact Qkh rfl
 refine ρ ?_;refine ld (hJ.at (i:=2) rfl) ?_;refine ρ ?_;refine sto (p:=⟨c.J,2,none⟩) (hJ.cell 2) (hJ.frozen _) ?_;have a8:=hJ.set 2 (.int .i64 (IntKind.i64.wrap (st+1)));have a6:GrN (λk=>k=c.J) w (w.setCell ⟨c.J,2,none⟩ (.int .i64 (IntKind.i64.wrap (st+1)))):=GrN.set _ rfl;have O:GrN c.NI w (w.setCell ⟨c.J,2,none⟩ (.int .i64 (IntKind.i64.wrap (st+1)))):=GrN.set _ (.inl rfl);refine ρ ?_;generalize w.setCell ⟨c.J,2,none⟩ (.int .i64 (IntKind.i64.wrap (st+1)))=w2 at *
 have H2:Cfg c Y w2 z (λi=>lv (c.vars i) c.n) p e f h l:=by
  refine ⟨H.env.gr (O.mono λk _ hk=>hok.sub k hk),λi hi=>?_,Js H.row a6 (λg eg=>H.rowJ eg),H.zl,⟨_,by rw [a2,a1];exact a8⟩,hY.keep _ _ _ H.y O⟩;obtain ⟨st,Z⟩:=H.its i hi;exact ⟨st,Jv Z a6 (hok.gj i hi)⟩
 refine drN (λ_=>False) 10 [(0,0),(0,1),(0,2),(0,3),(0,4),(0,5),(0,6),(0,7),(2,8),(2,9)] kr ?_;have G:Ext w2 w2.drew:=(Ext.refl w2).drew;have a7:=a8.ext G;have H3:=H2.ext hY G;refine ρn ?_;refine nld (Jp (a7.at (i:=3) rfl) (λe=>e)) ?_;refine ρn ?_;refine nld (Jp (a7.at (i:=0) rfl) (λe=>e)) ?_;refine ρn ?_;refine Xy ?_;have a3:Lt [] (l++[z]):=by
  refine List.pairwise_append.2 ⟨hl,List.pairwise_singleton _ _,λx hx y hy=>?_⟩;rw [List.mem_singleton.1 hy];exact hls x hx z o rfl
 have a4:l.length<65536:=by
  have:=hcap (l++[z]) a3 (λx hx=>by
   rcases List.mem_append.1 hx with h'|h'
   .exact hla x h'
   .rw [List.mem_singleton.1 h'];exact o)
  rw [List.length_append]at this;simp at this;omega
 refine clv (U l _ c.rowv z H3.y (H3.rowV hok) a4) ?_;rintro u w4 ⟨rfl,a9,C⟩;refine ρ ?_;refine Uv ?_;refine Xy ?_;refine ρ ?_;have a5:GrN c.N w w4:=((O.mono λk _ hk=>hok.sub k hk).trans (GrN.ext G)).trans (C.mono λk _ hk=>hY.sub k hk);refine Jq ⟨rfl,a5,z,f,h,l++[z],⟨H.env.gr a5,λi hi=>?_,Js H3.row C (λg eg hn=>hY.off g hn (.inr (.inr eg))),H.zl,?_,a9⟩,rfl,λi hi k hk=>⟨rfl,rfl⟩,a3,λx=>?_⟩
 .obtain ⟨st,Z⟩:=H3.its i hi;exact ⟨st,Jv Z C (λhn=>hY.off _ hn (.inr (.inl ⟨i,hi,rfl⟩)))⟩
 .obtain ⟨st,Z⟩:=H3.jb;exact ⟨st,Jv Z C (λhn=>hY.off _ hn (.inl rfl))⟩
 .rw [List.mem_append,List.mem_singleton];constructor
  .rintro (h'|rfl)
   .exact .inl h'
   .exact .inr ⟨o,rfl⟩
  .rintro (h'|⟨Z,h2⟩)
   .exact .inl h'
   .exact .inr (Qbk Z.1 H.zl h2)
open Go.RowKit Pl Go.Wk
variable {a i:Nat}{e e1 p p1:Nat->Nat}{y z z2:Row}
structure LS where
 L: Nat->Nat
 p:Nat->Nat
 e:Nat->Nat
 f:Nat->Nat->Nat
 h:Nat->Nat->Nat
def LS.upd(S:LS)(i L p e:Nat)(f h:Nat->Nat): LS:=⟨Wk.upd S.L i L,Wk.upd S.p i p,Wk.upd S.e i e,Wk.upd S.f i f,Wk.upd S.h i h⟩
theorem Cfg.congr{c:JC}{Y:List Row->World->Prop}{w:World}{L L' p' e':Nat->Nat}{f h f' h':Nat->Nat->Nat}{l:List Row}(H:Cfg c Y w z L p e f h l)(h1:∀ i,i<c.m->L' i=L i/\p' i=p i/\e' i=e i/\f' i=f i/\h' i=h i): Cfg c Y w z L' p' e' f' h' l :=
 ⟨H.env,λi hi=>by obtain ⟨J,G,C,u,o⟩:=h1 i hi;rw [J,G,C,u,o];exact H.its i hi,H.row,H.zl,H.jb,H.y⟩
def JC.vl(c:JC)(v i a:Nat): V:=(lvl (c.F.rs i) (lv (c.vars i) v)).getD a V0
structure Sib(c:JC)(v:Nat)(z:Row)(lo hi:Nat->Nat): Prop where
 lt:∀ i∈c.I v,lo i<hi i/\hi i<=(pfx (c.F.rs i) (lv (c.vars i) v+1)).length
 ch:∀ i∈c.I v,∀ a,a<(pfx (c.F.rs i) (lv (c.vars i) v+1)).length->(((pfx (c.F.rs i) (lv (c.vars i) v+1)).getD a []).take (lv (c.vars i) v)=(pmR (c.vars i) z).take (lv (c.vars i) v)↔lo i<=a/\a<hi i)
section
variable {c:JC} {v:Nat} {z:Row} {lo hi:Nat->Nat}
theorem JOk.lvd(hok:JOk c)(hi:i∈c.I v): lv (c.vars i) v+1<=c.F.d i:=by
 obtain ⟨o,u⟩:=JC.mem_I.1 hi;rw [hok.d i o];exact (Vs (hok.asc i o) u).2.1
theorem Sib.node(hok:JOk c)(hS:Sib c v z lo hi)(him:i∈c.I v)(h1:lo i<=a)(h2:a<hi i): (pfx (c.F.rs i) (lv (c.vars i) v+1)).getD a []=(pmR (c.vars i) z).take (lv (c.vars i) v)++[c.vl v i a]:=by
 obtain ⟨o,G⟩:=JC.mem_I.1 him;have C:=hS.lt i him;have u:a<(pfx (c.F.rs i) (lv (c.vars i) v+1)).length:=om
 have O:=(hS.ch i him a u).2 ⟨h1,h2⟩;have J:=Qfv (Uu (hok.srt i o)) (hok.len i o) (hok.lvd him) (getD_mem' [] _ u);rw [Qbj J O,JC.vl,Qld u]
theorem Sib.srt(hok:JOk c)(hS:Sib c v z lo hi){i a b:Nat}(him:i∈c.I v)(h1:lo i<=a)(h2:a<b)(h3:b<hi i): cmpV (c.vl v i a) (c.vl v i b)<0:=by
 obtain ⟨o,G⟩:=JC.mem_I.1 him;have C:=hS.lt i him;have u:=(Jkj (Uu (hok.srt i o)) (lv (c.vars i) v+1)).1.at h2 om;rw [hS.node hok him h1 om,hS.node hok him om h3]at u;have key:∀ (y:Row) (a b:V),Jw (y++[a]) (y++[b]) []<0->cmpV a b<0:=λy a b=>by
  induction y with
  | nil=>
   intro h;simp only [List.nil_append,Jw]at h;by_cases e:cmpV a b=0
   .rw [if_pos e]at h;omega
   .rw [if_neg e]at h;exact h
  | cons x y ih=>
   intro h;simp only [List.cons_append,Jw,Xe,if_true,List.drop_nil]at h;exact ih h
 exact key _ _ _ u
theorem Sib.ans(hok:JOk c)(hS:Sib c v z lo hi)(hy:c.Ans y)(ht:y.take v=z.take v)(him:i∈c.I v): ∃ a,lo i<=a/\a<hi i/\c.vl v i a=y.getD v V0:=by
 obtain ⟨o,G⟩:=JC.mem_I.1 him;have Z:=(Jqw (Uu (hok.srt i o)) (l:=lv (c.vars i) v+1)).2 ⟨_,hy.2 i o,rfl⟩;obtain ⟨a,O,U⟩:=List.getElem_of_mem Z;rw [Jsl (hok.asc i o) G,Jff (hok.asc i o) ht]at U;have u:(pfx (c.F.rs i) (lv (c.vars i) v+1)).getD a []=(pmR (c.vars i) z).take (lv (c.vars i) v)++[y.getD v V0]:=by rw [Jr [] _ O];exact U
 have hl:((pmR (c.vars i) z).take (lv (c.vars i) v)).length=lv (c.vars i) v:=by rw [List.length_take,Qr];have:=Jtt (c.vars i) v;omega
 have C:=(hS.ch i him a O).1 (by rw [u,List.take_append_of_le_length om,List.take_of_length_le om]);refine ⟨a,C.1,C.2,?_⟩;have:=hS.node hok him C.1 C.2;rw [u]at this;have J:=List.append_cancel_left this;injection J with J
 exact J.symm
theorem Pth.step(hok:JOk c)(hP:Pth c v z p e)(hS:Sib c v z lo hi)(hv:v<z.length){x:V}(h1:∀ i∈c.I v,lo i<=p1 i/\p1 i<hi i/\c.vl v i (p1 i)=x)(hz2:z2.take v=z.take v)(hz3:z2.getD v V0=x)(h2:∀ i,i<c.m->i ∉ c.I v->p1 i=p i/\e1 i=e i)(h3:∀ i∈c.I v,e1 i=hi i): Pth c (v+1) z2 p1 e1:=by
 refine ⟨λi o=>?_,λi o h0=>?_⟩
 .by_cases him:i∈c.I v
  .obtain ⟨u,C⟩:=JC.mem_I.1 him;have J:=h1 i him;rw [(Vs (hok.asc i u) C).1,Jsl (hok.asc i u) C,Jff (hok.asc i u) hz2,hz3,Yy,if_neg om,hS.node hok him J.1 J.2.1,J.2.2]
  .have G:v ∉ c.vars i:=λO=>him (JC.mem_I.2 ⟨o,O⟩);rw [Jjl G,(h2 i o him).1,hP.path i o,Jff (hok.asc i o) hz2]
 .by_cases him:i∈c.I v
  .obtain ⟨u,C⟩:=JC.mem_I.1 him;have J:=h1 i him;rw [(Vs (hok.asc i u) C).1,h3 i him];exact ⟨J.2.1,(hS.lt i him).2⟩
  .have G:v ∉ c.vars i:=λO=>him (JC.mem_I.2 ⟨o,O⟩);rw [Jjl G]at h0 ⊢;rw [(h2 i o him).1,(h2 i o him).2];exact hP.rng i o h0
end
end Go.Proofs.YtebcagekopgdhaaGreatDoor
