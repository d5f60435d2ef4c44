/- Part 8. -/
import Derived.Test.YtebiphhfkdbpfaaGreatDoorC07
set_option linter.unusedVariables false
set_option maxRecDepth 100000
set_option maxHeartbeats 40000000
namespace Go.Proofs.YtebiphhfkdbpfaaGreatDoor.Agm
variable {L l:List Nat}{C D m n:Nat}{M p q x y:Rat}
theorem Jgl(a b:Rat): ∀ n:Nat,(a*b)^n=a^n*b^n
 | 0=>by rw[Rat.pow_zero,Rat.pow_zero,Rat.pow_zero];grind
 | n+1=>by rw[Rat.pow_succ,Rat.pow_succ,Rat.pow_succ,Jgl a b n];grind
theorem pow_pos{a:Rat}(h:0<a): ∀ n:Nat,0<a^n
 | 0=>by rw[Rat.pow_zero];decide
 | n+1=>by rw[Rat.pow_succ];exact Rat.mul_pos (pow_pos h n) h
theorem Jtd(hx:0<=x)(h:x^n<=0): x=0:=by
 rcases Rat.le_iff_lt_or_eq.1 hx with h1|h1
 .have:=pow_pos h1 n;grind
 exact h1.symm
theorem Jcx(h:0<n): (0:Rat)^n=0:=by
 obtain⟨m,rfl⟩:∃ m,n=m+1:=⟨n-1,om⟩;rw[Rat.pow_succ];grind
theorem two0(hy:0<=y)(hx:0<=x)(hp:0<=p)(hq:0<q)(h2:y^D<=M*q^D)(h:x*q<=y*p): (x+y)^D<=M*(p+q)^D:=by
 have u:(x+y)*q<=y*(p+q):=by grind
 have j:=Jtf (Rat.mul_nonneg (show 0<=x+y by grind) (Rat.le_of_lt hq)) u D;rw[Jgl,Jgl]at j;have B:=Rat.mul_le_mul_of_nonneg_right h2 (Jyn (show 0<=p+q by grind) D);have i:(x+y)^D*q^D<=M*(p+q)^D*q^D:=by grind
 exact Rat.le_of_mul_le_mul_right i (pow_pos hq D)
theorem two(hD:0<D)(hx:0<=x)(hy:0<=y)(hp:0<=p)(hq:0<=q)(h1:x^D<=M*p^D)(h2:y^D<=M*q^D): (x+y)^D<=M*(p+q)^D:=by
 by_cases hp0:p=0
 .subst hp0;rw[Jcx hD]at h1;have:=Jtd hx (n:=D) (by grind);subst this;have j:(0:Rat)+y=y:=by grind
  have i:(0:Rat)+q=q:=by grind
  rw[j,i];exact h2
 by_cases hq0:q=0
 .subst hq0;rw[Jcx hD]at h2;have:=Jtd hy (n:=D) (by grind);subst this;have j:x+(0:Rat)=x:=by grind
  have i:p+(0:Rat)=p:=by grind
  rw[j,i];exact h1
 rcases Rat.le_total (a:=x*q) (b:=y*p) with h|h
 .exact two0 hy hx hp (by grind) h2 h
 have:=two0 hx hy hq (show 0<p by grind) h1 h;have j:x+y=y+x:=by grind
 have i:p+q=q+p:=by grind
 rw[j,i];exact this
section
variable {α:Type}
theorem sums{D:Nat}(hD:0<D){M:Rat}{f c:α->Rat}: ∀ {A:List α},(∀ a∈A,0<=f a/\0<=c a/\f a^D<=M*c a^D)->(Qd (A.map f))^D<=M*(Qd (A.map c))^D
 | [],_=>by
  show(0:Rat)^D<=M*0^D;rw[Jcx hD];grind
 | a::A,h=>by
  obtain⟨h1,h2,h3⟩:=h a (by simp);show(f a+Qd (A.map f))^D<=M*(c a+Qd (A.map c))^D;exact two hD h1 (Jvx λx hx=>by
   obtain⟨b,hb,rfl⟩:=List.mem_map.1 hx;exact(h b (by simp[hb])).1) h2 (Jvx λx hx=>by
   obtain⟨b,hb,rfl⟩:=List.mem_map.1 hx;exact(h b (by simp[hb])).2.1) h3 (sums hD λb hb=>h b (by simp[hb]))
def Qh(l:List Nat): Nat:=l.foldr (· * ·) 1
theorem Jst(l:List Nat): ((Qh l:Nat):Rat)=Xo (l.map λx:Nat=>(x:Rat)):=by
 induction l with
 | nil=>rfl
 | cons a l ih=>show((a*Qh l:Nat):Rat)=(a:Rat)*Xo (l.map λx:Nat=>(x:Rat));rw[Rat.natCast_mul,ih]
theorem Jpk(l:List Nat): ((l.sum:Nat):Rat)=Qd (l.map λx:Nat=>(x:Rat)):=by
 induction l with
 | nil=>rfl
 | cons a l ih=>show((a::l).sum:Rat)=(a:Rat)+Qd (l.map λx:Nat=>(x:Rat));rw[List.sum_cons,Rat.natCast_add,ih]
theorem Jss{β:Type}{l:List β}{f g:β->Nat}(h:∀ b∈l,f b<=g b): Qh (l.map f)<=Qh (l.map g):=by
 induction l with
 | nil=>exact Nat.le_refl _
 | cons a l ih=>exact Nat.mul_le_mul (h a (by simp)) (ih λb i=>h b (by simp[i]))
theorem Qdf(A:List α)(u v:α->Rat): Qd (A.map λa=>u a+v a)=Qd (A.map u)+Qd (A.map v):=by
 induction A with
 | nil=>show(0:Rat)=0+0;grind
 | cons a A ih=>show u a+v a+Qd (A.map λa=>u a+v a)=(u a+Qd (A.map u))+(v a+Qd (A.map v));rw[ih];grind
theorem Jpq(A:List α)(u:α->Rat)(k:Rat): Qd (A.map λa=>u a / k)=Qd (A.map u) / k:=by
 induction A with
 | nil=>show(0:Rat)=0 / k;rw[Rat.div_def];grind
 | cons a A ih=>show u a / k+Qd (A.map λa=>u a / k)=(u a+Qd (A.map u)) / k;rw[ih,Rat.div_def,Rat.div_def,Rat.div_def];grind
theorem Qdd(A:List α): Qd (A.map λ_=>(0:Rat))=0:=by
 induction A with
 | nil=>rfl
 | cons a A ih=>show 0+Qd (A.map λ_=>(0:Rat))=0;rw[ih];grind
theorem Qcw{A:List α}{g:α->Nat}(h:(A.map g).sum=0): ∀ a∈A,g a=0:=by
 induction A with
 | nil=>simp
 | cons b A ih=>
  rw[List.map_cons,List.sum_cons]at h;intro a i;rcases List.mem_cons.1 i with rfl|i
  .omega
  exact ih om a i
theorem Qhm(h:0∈l): Qh l=0:=by
 induction l with
 | nil=>cases h
 | cons a l ih=>
  show a*Qh l=0;rcases List.mem_cons.1 h with h|h
  .rw[<-h,Nat.zero_mul]
  rw[ih h,Nat.mul_zero]
theorem Qsz{A:List α}{f:α->Nat}{gs:List (α->Nat)}(h0:gs≠[])(h:∀ a∈A,f a^gs.length<=C*Qh (gs.map λg=>g a)): (A.map f).sum^gs.length<=C*Qh (gs.map λg=>(A.map g).sum):=by
 have O:0<gs.length:=List.length_pos_iff.2 h0;by_cases B:∃ g∈gs,(A.map g).sum=0
 .obtain⟨g,i,B⟩:=B;have hf:∀ a∈A,f a=0:=λa u=>by
   have y:=h a u;rw[Qhm (List.mem_map.2 ⟨g,i,Qcw B a u⟩),Nat.mul_zero]at y;rcases Nat.eq_zero_or_pos (f a) with j|j
   .exact j
   have:=Nat.pow_pos (n:=gs.length) j;omega
  have:(A.map f).sum=0:=by
   clear h B;induction A with
   | nil=>rfl
   | cons b A ih=>rw[List.map_cons,List.sum_cons,hf b (by simp),ih λa u=>hf a (by simp[u])]
  rw[this,Nat.zero_pow O];exact Nat.zero_le _
 have hG:∀ g∈gs,(((A.map g).sum:Nat):Rat)≠0:=λg i=>Vc λe=>B ⟨g,i,e⟩;generalize hgD:gs.length=D at *
 have a2:(D:Rat)≠0:=Vc om;have key:=sums (A:=A) (f:=λa=>((f a:Nat):Rat)) (c:=λa=>Qd (gs.map fun (g:α->Nat)=>((g a:Nat):Rat) / (((A.map g).sum:Nat):Rat)) / (D:Rat)) (M:=(C:Rat)*Xo (gs.map fun (g:α->Nat)=>(((A.map g).sum:Nat):Rat))) O λa u=>by
  have G:∀ x∈gs.map (fun (g:α->Nat)=>((g a:Nat):Rat) / (((A.map g).sum:Nat):Rat)),0<=x:=λx Z=>by
   obtain⟨g,i,rfl⟩:=List.mem_map.1 Z;rw[Rat.div_def];have y:(0:Rat)<(((A.map g).sum:Nat):Rat):=by
    have j:(0:Rat)<=(((A.map g).sum:Nat):Rat):=Rat.natCast_nonneg;have:=hG g i;grind
   exact Rat.mul_nonneg Rat.natCast_nonneg (Rat.le_of_lt (Rat.inv_pos.2 y))
  have a1:(0:Rat)<(D:Rat):=Rat.natCast_pos.2 O;refine⟨Rat.natCast_nonneg,?_,?_⟩
  .rw[Rat.div_def];exact Rat.mul_nonneg (Jvx G) (Rat.le_of_lt (Rat.inv_pos.2 a1))
  have y:=amgm G (by simpa using h0);rw[List.length_map,hgD]at y;have hP:(0:Rat)<=(C:Rat)*Xo (gs.map fun (g:α->Nat)=>(((A.map g).sum:Nat):Rat)):=Rat.mul_nonneg Rat.natCast_nonneg (Qhp λx Z=>by
   obtain⟨g,_,rfl⟩:=List.mem_map.1 Z;exact Rat.natCast_nonneg)
  refine Rat.le_trans ?_ (Rat.mul_le_mul_of_nonneg_left y hP);have j:((f a^D:Nat):Rat)<=((C*Qh (gs.map λg=>g a):Nat):Rat):=Rat.natCast_le_natCast.2 (h a u);have h3:∀ l:List (α->Nat),(∀ g∈l,(((A.map g).sum:Nat):Rat)≠0)->Xo (l.map fun (g:α->Nat)=>(((A.map g).sum:Nat):Rat))*Xo (l.map fun (g:α->Nat)=>((g a:Nat):Rat) / (((A.map g).sum:Nat):Rat))=Xo (l.map fun (g:α->Nat)=>((g a:Nat):Rat)):=λl J=>by
   induction l with
   | nil=>show(1:Rat)*1=1;grind
   | cons g l ih=>
    have U:=ih λg i=>J g (by simp[i]);have i2:=J g (by simp);show(((A.map g).sum:Nat):Rat)*Xo (l.map fun (g:α->Nat)=>(((A.map g).sum:Nat):Rat))*(((g a:Nat):Rat) / (((A.map g).sum:Nat):Rat)*Xo (l.map fun (g:α->Nat)=>((g a:Nat):Rat) / (((A.map g).sum:Nat):Rat)))=((g a:Nat):Rat)*Xo (l.map fun (g:α->Nat)=>((g a:Nat):Rat));rw[<-U];generalize (((A.map g).sum:Nat):Rat)=s at *
    generalize Xo (l.map fun (g:α->Nat)=>(((A.map g).sum:Nat):Rat))=p at *
    generalize Xo (l.map fun (g:α->Nat)=>((g a:Nat):Rat) / (((A.map g).sum:Nat):Rat))=q at *
    have:s*(((g a:Nat):Rat) / s)=((g a:Nat):Rat):=by grind
    grind
  have h4:=h3 gs hG;rw[Rat.natCast_mul,Jst,List.map_map]at j;have e:(gs.map ((λx:Nat=>(x:Rat)) ∘ λg=>g a))=gs.map fun (g:α->Nat)=>((g a:Nat):Rat):=rfl
  rw[e,<-h4,Rat.natCast_pow]at j;grind
 have hs:Qd (A.map λa=>Qd (gs.map fun (g:α->Nat)=>((g a:Nat):Rat) / (((A.map g).sum:Nat):Rat)) / (D:Rat))=1:=by
  rw[Jpq];have h3:∀ l:List (α->Nat),(∀ g∈l,(((A.map g).sum:Nat):Rat)≠0)->Qd (A.map λa=>Qd (l.map fun (g:α->Nat)=>((g a:Nat):Rat) / (((A.map g).sum:Nat):Rat)))=(l.length:Rat):=λl J=>by
   induction l with
   | nil=>exact Qdd A
   | cons g l ih=>
    have U:=ih λg i=>J g (by simp[i]);have i2:=J g (by simp);have e1:Qd (A.map λa=>Qd ((g::l).map fun (g:α->Nat)=>((g a:Nat):Rat) / (((A.map g).sum:Nat):Rat)))=Qd (A.map λa=>((g a:Nat):Rat) / (((A.map g).sum:Nat):Rat)+Qd (l.map fun (g:α->Nat)=>((g a:Nat):Rat) / (((A.map g).sum:Nat):Rat))):=rfl;rw[e1,Qdf,U,Jpq];have e2:Qd (A.map λa=>((g a:Nat):Rat))=(((A.map g).sum:Nat):Rat):=by rw[Jpk,List.map_map];rfl
    rw[e2,List.length_cons,Rat.natCast_add];have:((1:Nat):Rat)=1:=rfl;rw[this];grind
  rw[h3 gs hG,hgD];grind
 rw[hs]at key;have e1:(1:Rat)^D=1:=by
  clear key h hgD O a2 hs;induction D with
  | zero=>rw[Rat.pow_zero]
  | succ n ih=>rw[Rat.pow_succ,ih];grind
 have e2:Qd (A.map λa=>((f a:Nat):Rat))=(((A.map f).sum:Nat):Rat):=by rw[Jpk,List.map_map];rfl
 rw[e1,e2,<-Rat.natCast_pow]at key;have e3:Xo (gs.map fun (g:α->Nat)=>(((A.map g).sum:Nat):Rat))=((Qh (gs.map λg=>(A.map g).sum):Nat):Rat):=by rw[Jst,List.map_map];rfl
 rw[e3,<-Rat.natCast_mul]at key;exact Rat.natCast_le_natCast.1 (by grind)
open Classical in
noncomputable def dd:List α->List α
 | []=>[]
 | a::l=>if a∈dd l then dd l else a::dd l
theorem Jlh{a:α}: ∀ {l:List α},a∈l->a∈dd l
 | b::l,h=>by
  unfold dd;split
  .rename_i hb;rcases List.mem_cons.1 h with rfl|h
   .exact hb
   exact Jlh h
  rcases List.mem_cons.1 h with rfl|h
  .simp
  exact List.mem_cons_of_mem _ (Jlh h)
theorem Jlg: ∀ l:List α,(dd l).Nodup
 | []=>List.nodup_nil
 | b::l=>by
  unfold dd;split
  .exact Jlg l
  exact List.nodup_cons.2 ⟨by assumption,Jlg l⟩
def Hs(A:List α)(k:Option α): Prop:=∃ a∈A,k=some a
open Classical in
theorem Jtv {k:Option α}:∀ {A:List α},A.Nodup->(A.map λa=>if k=some a then 1 else 0).sum=if Hs A k then 1 else 0
 | [],_=>by
  rw[if_neg]
  .rfl
  rintro⟨a,ha,_⟩;cases ha
 | b::A,h=>by
  obtain⟨h1,h2⟩:=List.nodup_cons.1 h;rw[List.map_cons,List.sum_cons,Jtv h2];by_cases e:k=some b
  .subst e;rw[if_pos rfl,if_neg,if_pos ⟨b,by simp,rfl⟩];rintro⟨a,ha,e⟩;injection e with e
   exact h1 (e ▸ ha)
  rw[if_neg e,Nat.zero_add];congr 1
  refine propext ⟨λ⟨a,ha,e⟩=>⟨a,by simp[ha],e⟩,λ⟨a,ha,e'⟩=>?_⟩;rcases List.mem_cons.1 ha with rfl|ha
  .exact absurd e' e
  exact⟨a,ha,e'⟩
open Classical in
theorem Jlm {β:Type} {κ:β->Option α} {A:List α} (hA:A.Nodup):∀ Q:List β,(A.map λa=>(Q.filter λq=>decide (κ q=some a)).length).sum=(Q.filter λq=>decide (Hs A (κ q))).length
 | []=>by
  show(A.map λ_=>0).sum=0;clear hA;induction A with
  | nil=>rfl
  | cons a A ih=>rw[List.map_cons,List.sum_cons,ih]
 | q::Q=>by
  have ih:=Jlm (κ:=κ) hA Q;have e:∀(p:β->Prop) [DecidablePred p],((q::Q).filter λq=>decide (p q)).length=(if p q then 1 else 0)+(Q.filter λq=>decide (p q)).length:=λp hp=>by
   rw[List.filter_cons];by_cases h:p q
   .rw[if_pos (decide_eq_true h),if_pos h,List.length_cons];omega
   rw[if_neg (by simpa using h),if_neg h];omega
  rw[e λq=>Hs A (κ q),<-ih,<-Jtv hA];have:∀ B:List α,(B.map λa=>((q::Q).filter λq=>decide (κ q=some a)).length).sum=(B.map λa=>if κ q=some a then 1 else 0).sum+(B.map λa=>(Q.filter λq=>decide (κ q=some a)).length).sum:=λB=>by
   induction B with
   | nil=>rfl
   | cons b B ih=>rw[List.map_cons,List.sum_cons,ih,e λq=>κ q=some b,List.map_cons,List.sum_cons,List.map_cons,List.sum_cons];omega
  exact this A
def prj(E:Nat->Bool): List Nat->List α->List α
 | v::L,a::x=>if E v then a::prj E L x else prj E L x
 | _,_=>[]
theorem Qhn(l k:List Nat): Qh (l++k)=Qh l*Qh k:=by
 induction l with
 | nil=>show Qh k=1*Qh k;omega
 | cons a l ih=>show a*Qh (l++k)=a*Qh l*Qh k;rw[ih,Nat.mul_assoc]
theorem part{β:Type}{b:β->Bool}: ∀ {Ps:List β} {D:Nat},D<=(Ps.filter b).length->∃ T S:List β,T.length=D/\(∀ p∈T,b p=true/\p∈Ps)/\(∀ p∈S,p∈Ps)/\∀ φ:β->Nat,Qh (Ps.map φ)=Qh (S.map φ)*Qh (T.map φ)
 | Ps,0,_=>⟨[],Ps,rfl,by simp,λp h=>h,λφ=>by show _=_*1;omega⟩
 | [],D+1,h=>by simp at h
 | p::Ps,D+1,h=>by
  rw[List.filter_cons]at h;by_cases hb:b p
  .rw[if_pos hb,List.length_cons]at h;obtain⟨T,S,h1,h2,h3,h4⟩:=part (b:=b) (Ps:=Ps) (D:=D) om;refine⟨p::T,S,by rw[List.length_cons,h1],λq hq=>?_,λq hq=>by simp[h3 q hq],λφ=>?_⟩
   .rcases List.mem_cons.1 hq with rfl|hq
    .exact⟨hb,by simp⟩
    exact⟨(h2 q hq).1,by simp[(h2 q hq).2]⟩
   show φ p*Qh (Ps.map φ)=Qh (S.map φ)*(φ p*Qh (T.map φ));rw[h4 φ];grind
  rw[if_neg hb]at h;obtain⟨T,S,h1,h2,h3,h4⟩:=part (b:=b) (Ps:=Ps) (D:=D+1) h;refine⟨T,p::S,h1,λq hq=>⟨(h2 q hq).1,by simp[(h2 q hq).2]⟩,λq hq=>?_,λφ=>?_⟩
  .rcases List.mem_cons.1 hq with rfl|hq
   .simp
   simp[h3 q hq]
  show φ p*Qh (Ps.map φ)=φ p*Qh (S.map φ)*Qh (T.map φ);rw[h4 φ];grind
open Classical in
theorem Qvx:∀(L:List Nat) (R:List (List α)),R.Nodup->(∀ x∈R,x.length=L.length)->∀(Ps:List ((Nat->Bool)×List (List α))) (D:Nat),0<D->(∀ v∈L,D<=(Ps.filter λp=>p.1 v).length)->(∀ p∈Ps,∀ x∈R,prj p.1 L x∈p.2)->R.length^D<=Qh (Ps.map λp=>p.2.length)
 | [],R,hR,hl,Ps,D,hD,hc,hp=>by
  match R,hR,hl,hp with
  | [],_,_,_=>rw[List.length_nil,Nat.zero_pow hD];exact Nat.zero_le _
  | [x],_,_,hp=>
   rw[List.length_singleton,Nat.one_pow];have:∀ l:List ((Nat->Bool)×List (List α)),(∀ p∈l,p.2≠[])->1<=Qh (l.map λp=>p.2.length):=λl h=>by
    induction l with
    | nil=>exact Nat.le_refl _
    | cons p l ih=>exact Nat.mul_pos (List.length_pos_iff.2 (h p (by simp))) (ih λp hp=>h p (by simp[hp]))
   exact this Ps λp hp' e=>by
    have:=hp p hp' x (by simp);rw[e]at this;cases this
  | x::y::R,hR,hl,_=>
   have h1:=List.eq_nil_of_length_eq_zero (hl x (by simp));have h2:=List.eq_nil_of_length_eq_zero (hl y (by simp));subst h1;subst h2;simp at hR
 | v::L,R,hR,hl,Ps,D,hD,hc,hp=>by
  obtain⟨T,S,hT,hTb,hS,hpr⟩:=part (hc v (by simp));let φ:α->(Nat->Bool)×List (List α)->Nat:=λa p=>if p.1 v then(p.2.filter λx=>decide (x.head?=some a)).length else p.2.length
  have hφ:∀ a p,φ a p<=p.2.length:=λa p=>by
   show(if p.1 v then(p.2.filter λx=>decide (x.head?=some a)).length else p.2.length)<=_;split
   .exact List.length_filter_le _ _
   exact Nat.le_refl _
  have hh:∀ x∈R,∃ a x',x=a::x'/\x'.length=L.length:=λx hx=>by
   have:=hl x hx;match x,this with
   | a::x',h=>exact⟨a,x',rfl,by simpa using h⟩
  let A:=dd (R.filterMap List.head?)
  have hA:A.Nodup:=Jlg _;have hsum:(A.map λa=>(R.filter λx=>decide (x.head?=some a)).length).sum=R.length:=by
   rw[Jlm hA,List.filter_eq_self.2];intro x hx;obtain⟨a,x',rfl,_⟩:=hh x hx;exact decide_eq_true ⟨a,Jlh (List.mem_filterMap.2 ⟨_,hx,rfl⟩),rfl⟩
  have hstep:∀ a∈A,(R.filter λx=>decide (x.head?=some a)).length^D<=Qh (S.map λp=>p.2.length)*Qh (T.map (φ a)):=λa _=>by
   have ih:=Qvx L ((R.filter λx=>decide (x.head?=some a)).map List.tail) ?_ ?_ (Ps.map λp=>(p.1,if p.1 v then(p.2.filter λx=>decide (x.head?=some a)).map List.tail else p.2)) D hD ?_ ?_
   .rw[List.length_map,List.map_map]at ih;refine nL ih ?_;have e:(Ps.map ((λp:(Nat->Bool)×List (List α)=>p.2.length) ∘ λp=>(p.1,if p.1 v then(p.2.filter λx=>decide (x.head?=some a)).map List.tail else p.2)))=Ps.map (φ a):=List.map_congr_left λp _=>by
     show(if p.1 v then(p.2.filter λx=>decide (x.head?=some a)).map List.tail else p.2).length=if p.1 v then(p.2.filter λx=>decide (x.head?=some a)).length else p.2.length
     split
     .rw[List.length_map]
     rfl
    rw[e,hpr];exact nO _ (Jss λp _=>hφ a p)
   .rw[List.Nodup,List.pairwise_map];refine List.Pairwise.imp_of_mem ?_ (hR.filter _);intro x y hx hy hne e;obtain⟨hx1,hx2⟩:=List.mem_filter.1 hx;obtain⟨hy1,hy2⟩:=List.mem_filter.1 hy;obtain⟨b,x',rfl,_⟩:=hh x hx1;obtain⟨c,y',rfl,_⟩:=hh y hy1;have h1:=oT hx2;have h2:=oT hy2;simp only[List.head?_cons,Option.some.injEq]at h1 h2;simp only[List.tail_cons]at e;exact hne (by rw[h1,h2,e])
   .intro x hx;obtain⟨y,hy,rfl⟩:=List.mem_map.1 hx;obtain⟨b,x',rfl,h⟩:=hh y (List.mem_filter.1 hy).1;exact h
   .intro u hu;rw[List.filter_map,List.length_map];exact hc u (by simp[hu])
   intro q hq x hx;obtain⟨p,hp',rfl⟩:=List.mem_map.1 hq;obtain⟨y,hy,rfl⟩:=List.mem_map.1 hx;obtain⟨hy1,hy2⟩:=List.mem_filter.1 hy;obtain⟨b,x',rfl,_⟩:=hh y hy1;have h1:=oT hy2;simp only[List.head?_cons,Option.some.injEq]at h1;subst h1;have h3:=hp p hp' _ hy1;rw[prj]at h3;show prj p.1 L x'∈if p.1 v then(p.2.filter λx=>decide (x.head?=some b)).map List.tail else p.2
   by_cases hv:p.1 v
   .rw[if_pos hv]at h3 ⊢;exact List.mem_map.2 ⟨_,List.mem_filter.2 ⟨h3,decide_eq_true rfl⟩,rfl⟩
   rw[if_neg hv]at h3 ⊢;exact h3
  have hgl:(T.map λp a=>φ a p).length=D:=by rw[List.length_map,hT]
  have key:=Qsz (A:=A) (f:=λa=>(R.filter λx=>decide (x.head?=some a)).length) (gs:=T.map λp a=>φ a p) (C:=Qh (S.map λp=>p.2.length)) (λe=>by rw[e]at hgl;simp at hgl;omega) λa ha=>by
   rw[hgl,List.map_map];exact hstep a ha
  rw[hsum,hgl,List.map_map]at key;refine nL key ?_;rw[hpr];refine Nat.mul_le_mul_left _ (Jss λp hp'=>?_);show(A.map λa=>φ a p).sum<=_;have hb:=(hTb p hp').1;have e:(A.map λa=>φ a p)=A.map λa=>(p.2.filter λx=>decide (x.head?=some a)).length:=List.map_congr_left λa _=>by
   show(if p.1 v then(p.2.filter λx=>decide (x.head?=some a)).length else p.2.length)=_;rw[if_pos hb]
  rw[e,Jlm hA];exact List.length_filter_le _ _
def cps(E:Nat->Nat->Bool)(P:Nat->List (List α))(e:Nat->Nat): Nat->List ((Nat->Bool)×List (List α))
 | 0=>[]
 | k+1=>cps E P e k++List.replicate (e k) (E k,P k)
theorem Qks(E:Nat->Nat->Bool)(P:Nat->List (List α))(e:Nat->Nat): ∀ k,Qh ((cps E P e k).map λp=>p.2.length)=prN k λj=>(P j).length^e j
 | 0=>rfl
 | k+1=>by
  rw[cps,List.map_append,Qhn,Qks E P e k,prN,List.map_replicate];congr 1
  generalize e k=m
  induction m with
  | zero=>rfl
  | succ m ih=>rw[List.replicate_succ,Nat.pow_succ];show(P k).length*Qh (List.replicate m (P k).length)=_;rw[ih,Nat.mul_comm]
theorem Qkv(E:Nat->Nat->Bool)(P:Nat->List (List α))(e:Nat->Nat)(v:Nat): ∀ k,((cps E P e k).filter λp=>p.1 v).length=sN k λj=>if E j v then e j else 0
 | 0=>rfl
 | k+1=>by
  rw[cps,List.filter_append,List.length_append,Qkv E P e v k,sN];congr 1
  by_cases h:E k v
  .rw[if_pos h,List.filter_eq_self.2 λp hp=>by rw[List.eq_of_mem_replicate hp];exact h,List.length_replicate]
  rw[if_neg h,List.filter_eq_nil_iff.2 λp hp=>by rw[List.eq_of_mem_replicate hp];exact h];rfl
theorem Qkt{E:Nat->Nat->Bool}{P:Nat->List (List α)}{e:Nat->Nat}{p:(Nat->Bool)×List (List α)}: ∀ {k},p∈cps E P e k->∃ j,j<k/\p=(E j,P j)
 | k+1,h=>by
  rcases List.mem_append.1 h with h|h
  .obtain⟨j,hj,e⟩:=Qkt h;exact⟨j,om,e⟩
  exact⟨k,om,List.eq_of_mem_replicate h⟩
theorem agm{R:List (List α)}{E:Nat->Nat->Bool}{P:Nat->List (List α)}{e:Nat->Nat}(hR:R.Nodup)(hl:∀ x∈R,x.length=L.length)(hD:0<D)(hc:∀ v∈L,D<=sN m λk=>if E k v then e k else 0)(hp:∀ k,k<m->∀ x∈R,prj (E k) L x∈P k): R.length^D<=prN m λk=>(P k).length^e k:=by
 rw[<-Qks E P e];refine Qvx L R hR hl _ D hD (λv u=>by rw[Qkv];exact hc v u) λp i x j=>?_;obtain⟨k,y,rfl⟩:=Qkt i;exact hp k y x j
end
end Go.Proofs.YtebiphhfkdbpfaaGreatDoor.Agm
namespace Go.Proofs.YtebiphhfkdbpfaaGreatDoor
open Bl Nw
def Ut(n:Nat)(es sizes:List Nat)(set:Nat): Nat:=match cvr (Jxz n es set) n es set with
 | some pc=>Jkj (Vo pc.ws sizes (dnm pc.ws)) (dnm pc.ws)
 | none=>0
section
variable {n:Nat} {es sizes:List Nat} {set:Nat} {ws:List PR}
theorem Jmc(h5:es.length<=5)(h0:set≠0)(hlt:set<2^n)(hc:Uu n es set): ∃ pc,cvr (Jxz n es set) n es set=some pc/\CvOk n es set pc.ws/\∀ sizes:List Nat,sizes.length=es.length->Ut n es sizes set=Jkj (prN es.length λk=>sizes.getD k 0^exK pc.ws k) (dnm pc.ws)/\Kd (prN es.length λk=>sizes.getD k 0^exK pc.ws k) (dnm pc.ws) (Ut n es sizes set):=by
 obtain⟨pc,j,i⟩:=Xqt h5 h0 hlt hc;refine⟨pc,j,i,λsizes u=>?_⟩;have e:Ut n es sizes set=Jkj (prN es.length λk=>sizes.getD k 0^exK pc.ws k) (dnm pc.ws):=by
  unfold Ut;rw[j];show Jkj (Vo pc.ws sizes (dnm pc.ws)) (dnm pc.ws)=_;rw[Jsq (by rw[u,i.len]),i.len];rfl
 exact⟨e,by rw[e];exact Qgk i.d60.2.1⟩
end
open Go.RowKit Pl Go.Wk Bl Nw
attribute [local irreducible] WC WL QX WD WDB WP WN WG WH
variable {ad:Addr}{pr:Int->Bool}{zs:List Int}{cs us:List Value}{b base c e k m n t:Nat}{r:Nat->Nat}{A B SA W:Option Addr}{fv u v:Value}{w w' w0:World}
def Jmj(w:World)(fv:Value)(pr:Int->Bool): Prop:=∃ fid first cap,fv=.func (.func fid) first cap /\
 ∀ w',Ext w w'->∀ x,Ret Tryz.prog fid (first.toList++[.int .i64 x]++cap.toList) w' λr w''=>r=.bool (pr x)/\Ext w' w''
theorem Qsr(h:IntsV w v zs)(hT:Jmj w fv pr):
  Ret Tryz.prog 87 [v,fv] w λx w'=>(∃ k:Int,x=.int .i64 k/\(0<=k↔zs.any pr=true))/\Ext w w':=by
 obtain⟨A,c,rfl,hc,hl,O⟩:=h;obtain⟨G,first,J,rfl,hT⟩:=hT;refine Jz Tryz.func87 Tryz.ntmps87 rfl kr rfl ?_;refine ρ ?_;refine Js (fun (k:Nat)=>[(0,.slice A zs.length c),(1,.func (.func G) first J),(7,.int .i64 (zs.length:Int)),(8,.int .i64 (k:Int))])
  (λk w'=>k<=zs.length/\(∀ j,j<k->pr (zs.getD j 0)=false)/\Ext w w') (λk=>zs.length-k) 0 sB ⟨Nat.zero_le _,λj hj=>om,Ext.refl w⟩ ?_
 rintro k w1 ⟨hk,U,u⟩;refine ρ ?_;refine ci (λh=>?_) (λh=>?_)
 .have y:k<zs.length:=by have:=oT h;omega
  refine ρ ?_;refine ix k (O.ext u) y ?_;refine ρ ?_;refine ld ((O.ext u).cell (Kb y)) ?_;refine ρ ?_;refine clv (hT _ u (zs.getD k 0)) ?_;rintro r w2 ⟨rfl,B⟩;refine ρ ?_;refine ci (λh=>?_) (λh=>?_)
  .refine ρ ?_;refine Jq ⟨⟨k,rfl,?_⟩,u.trans B⟩;refine⟨λ_=>List.any_eq_true.2 ⟨_,getD_mem' 0 zs y,h⟩,λ_=>om⟩
  refine ρ ?_;refine Jp (k+1) sB ⟨om,λj hj=>?_,u.trans B⟩ om;by_cases e:j=k
  .rw[e];exact h
  exact U j om
 have a1:k=zs.length:=by have:=oF h;omega
 refine ρ ?_;refine Jq ⟨⟨-1,rfl,?_⟩,u⟩;refine⟨λh=>om,λh=>?_⟩;obtain⟨x,Z,D⟩:=List.any_eq_true.1 h;obtain⟨i,hi,rfl⟩:=List.getElem_of_mem Z;have:=U i om;rw[List.getD,List.getElem?_eq_getElem hi,Option.getD_some,D]at this;cases this
theorem Xxk(h:IntsV w v zs)(hT:Jmj w fv pr):
  Ret Tryz.prog 47 [v,fv] w λx w'=>x=.bool (zs.any pr)/\Ext w w':=by
 refine Jz Tryz.func47 Tryz.ntmps47 rfl kr rfl ?_;refine ρ ?_;refine cl (Qsr h hT) ?_;rintro x w1 ⟨⟨k,rfl,j⟩,i⟩;refine ρ ?_;refine Jq ⟨?_,i⟩;rw[show decide (0<=k)=zs.any pr by rw[Bool.eq_iff_iff,decide_eq_true_iff,j]]
theorem Qnw(z:Int)(w:World): Ret Tryz.prog 48 [.int .i64 z] w λu w'=>u=.bool (decide (z<0))/\Ext w w':=by
 refine Jz Tryz.func48 Tryz.ntmps48 rfl kr rfl ?_;refine ρ ?_;exact Jq ⟨rfl,Ext.refl _⟩
theorem Qnx(w:World): Jmj w (.func (.func 48) #[] #[]) λz=>decide (z<0):=⟨_,_,_,rfl,λw' _ x=>Qnw x w'⟩
structure BagB(n:Nat)(es sizes:List Nat)(set r:Nat): Prop where
 lt:set<2^n
 ne:set≠0
 cov:Uu n es set
 bnd:∃ fuel pc K K2,((Jy n set).length+(Jl es set es.length).length)^(Jl es set es.length).length<=fuel/\cvr fuel n es set=some pc/\(∀ q∈pc.ws,0<q.den)/\(∀ q∈pc.ws,0<=q.sign/\q.num<18446744073709551616)/\(∀ i,i<=pc.ws.length->dnK pc.ws i<4294967296) /\
  (∀ q∈pc.ws,q.num<18446744073709551616/\q.den<4294967296/\0<q.norm.den/\q.norm.den<4294967296)/\1<=dnm pc.ws/\dnm pc.ws<=64/\PrOk pc.ws sizes (dnm pc.ws) K/\K2<=29000/\7<=K2/\Jw (Vo pc.ws sizes (dnm pc.ws))+dnm pc.ws<=K2/\Gl K2/\∀ x,Kd (Vo pc.ws sizes (dnm pc.ws)) (dnm pc.ws) x->x=r
theorem Qlx(h:w.ownsRow base e 1 (.slice A n n) n us)(hg:(Value.slice A n n).ownBlock=some ad.block)(hc:w.cell? ad=some u): u∈us:=by
 rcases h.2 with⟨i,_⟩|⟨g,cap,cur,i,_,hh,_,_,hs,ht⟩
 .injection i with e1 _ _
  subst e1;cases hg
 injection i with e1 _ e3
 subst e1;subst e3;have j:g=ad.block:=by injection hg
 unfold World.cell? at hc;rw[<-j,hh]at hc;simp only at hc;split at hc
 .cases hc
 rw[List.take_of_length_le (by simp[hs])]at ht;rw[<-ht];rw[<-Array.getElem?_toList]at hc;exact List.mem_of_getElem? hc
theorem Qjg(h:w.ownsRow base e 1 (.slice A n n) n us)(hs:∀ u∈us,∃ B m c,u=.slice B m c)(hv:NatV w v m): NatX (λk=>(Value.slice A n n).ownBlock=some k) w v m:=by
 refine⟨hv,λh0 ad O c e j=>?_⟩;obtain⟨A',c',rfl,h2,Z,D⟩:=hv;injection e with e1 e2 e3
 subst e1;have i:Jj m≠[]:=λe=>by rw[Jxw h0]at e;cases e
 have U:=List.length_pos_iff.2 i;have y:=D.cell (Qm (l:=Jj m) (k:=0) om);obtain⟨B,J,c2,G⟩:=hs _ (Qlx h (ad:=adr (some ad) 0) j y);cases G
theorem ENat: ElT Tryz.prog 38 40 1 24 (.slice none 0 0):=⟨Tryz.underlying38,info_parts kr,rfl,by decide⟩
theorem NatV.slc(h:NatV w v m): ∃ A n c,v=.slice A n c:=by
 obtain⟨A,c,rfl,_⟩:=h;exact⟨_,_,_,rfl⟩
theorem Jcn(hB:Blk w b t cs)(he:ad.block=b)(hc:w.cell? ad=some u): cs[ad.off]?=some u:=by
 unfold World.cell? at hc;rw[he]at hc;rw[show w.heap[b]?=_ from hB]at hc;simp only at hc;split at hc
 .cases hc
 simpa using hc
theorem Jbb(hB:Blk w b t cs)(hcs:∀ u∈cs,∀ x,u≠.int .u32 x)(hv:NatV w v m): NatX (λk=>k=b) w v m:=by
 refine⟨hv,λh0 ad D c e j=>?_⟩;obtain⟨Z,U,rfl,O,J,B⟩:=hv;injection e with e1 e2 e3
 subst e1;have i:Jj m≠[]:=λe=>by rw[Jxw h0]at e;cases e
 have G:=List.length_pos_iff.2 i;have y:=B.cell (Qm (l:=Jj m) (k:=0) om);exact hcs _ (List.mem_of_getElem? (Jcn hB (ad:=adr (some ad) 0) j y)) _ rfl
theorem Xxb{ws:List PR}(h:GX 3 RtC Nn w (.slice W ws.length c) ws)(hB:Blk w b t [.slice none 0 0,.slice none 0 0,.bool false,.slice none 0 0,.slice none 0 0])(hd:∀ q∈ws,0<q.den): GX 3 RtC (λk=>k=b) w (.slice W ws.length c) ws:=by
 have i:∀ u∈([.slice none 0 0,.slice none 0 0,.bool false,.slice none 0 0,.slice none 0 0]:List Value),∀ x,u≠.int .u32 x:=λu hu x=>by
  simp only[List.mem_cons,List.not_mem_nil,or_false]at hu;rcases hu with rfl|rfl|rfl|rfl|rfl<;>exactλe=>by cases e
 obtain⟨⟨ps,A,c',e,ev,e2,e3,G,J⟩,_⟩:=h;refine⟨⟨ps,A,c',e,ev,e2,e3,G,λp hm=>⟨(J p hm).1,?_⟩⟩,λh0 ad m cc j hk=>?_⟩
 .obtain⟨x,y,O,hx,D⟩:=(J p hm).2;exact⟨x,y,O,Jbb hB i hx.1,Jbb hB i D.1⟩
 rw[ev]at j;injection j with j _ _
 subst j;cases ps with
 | nil=>exact h0 e
 | cons p ps'=>
  obtain⟨_,x,y,O,hx,D⟩:=J p (mC ..);have hq:0<p.2.den:=hd _ (by rw[e];simp);have hf:Jm (p::ps')=[.bool p.2.neg,x,y]++Jm ps':=by simp[Jm,O]
  have c0:=G.cell (k:=0) (u:=.bool p.2.neg) (by rw[hf];rfl);have c2:=G.cell (k:=2) (u:=y) (by rw[hf];rfl);have Z:=Jcn hB (ad:=adr (some ad) 0) hk c0;have U:=Jcn hB (ad:=adr (some ad) 2) hk c2;have o0:(adr (some ad) 0).off=ad.off:=rfl;have o2:(adr (some ad) 2).off=ad.off+2:=rfl;rw[o0]at Z;rw[o2]at U;have ho:ad.off=2:=by
   generalize ad.off=o at Z
   rcases o with _|_|_|_|_|o<;>simp at Z ⊢
  rw[ho]at U;obtain⟨B,d,rfl,_⟩:=D.1;simp at U;have:=limbs_pos' (n:=p.2.den) om;omega
def BndsO(w0 w:World)(A:Option Addr)(n k:Nat)(r:Nat->Nat)(us:List Value): Prop:=us.length=n/\w.ownsRow w0.heap.size 40 1 (.slice A n n) n us/\(∀ u∈us,∃ B m c,u=.slice B m c)/\∀ j,j<k->∃ u,us[j]?=some u/\NatV w u (r j)
theorem BndsO.ext{w0 w w':World}{A:Option Addr}{n k:Nat}{r:Nat->Nat}{us:List Value}(h:BndsO w0 w A n k r us)(hx:Ext w w'): BndsO w0 w' A n k r us :=
 ⟨h.1,Jh h.2.1 hx,h.2.2.1,λj y=>by obtain⟨u,e,i⟩:=h.2.2.2 j y;exact⟨u,e,i.ext hx⟩⟩
theorem BndsO.put(h:BndsO w0 w A n k r us)(hk:k<n)(hv:NatV w v (r k))(ho:w'.ownsRow w0.heap.size 40 1 (.slice A n n) n (us.set k v))(hg:w.grownBy w' (Value.slice A n n).ownBlock): BndsO w0 w' A n (k+1) r (us.set k v):=by
 obtain⟨J,D,B,G⟩:=h;have y:GrN (λq=>(Value.slice A n n).ownBlock=some q) w w':=GrN.by hg λq e=>e
 refine⟨by simp[J],ho,λu i=>?_,λj Z=>?_⟩
 .rcases List.mem_or_eq_of_mem_set i with i|rfl
  .exact B u i
  exact hv.slc
 by_cases e:j=k
 .subst e;exact⟨v,by rw[List.getElem?_set_self om],((Qjg D B hv).gr y).1⟩
 obtain⟨u,O,i⟩:=G j om;exact⟨u,by rw[List.getElem?_set_ne (λU=>e U.symm)];exact O,((Qjg D B i).gr y).1⟩
def SF.bxz(s:Nat): SF:=⟨λv w=>∃ b,v=.pointer (some ⟨b,0,none⟩)/\Blk w b 60 [.slice none 0 0,.slice none 0 0,.bool false,.slice none 0 0,.slice none 0 0]/\s<=b,λ⟨b,e,h,hs⟩ hx=>⟨b,e,h.ext hx,hs⟩⟩
def CovC(ws:List PR)(w:World)(cs:List Value): Prop:=∃ W W3 P1 P2 P3 b Q1 m1 c1 Q2 m2 c2,cs=[.slice W ws.length W3,.slice P1 P2 P3,.bool b,.slice Q1 m1 c1,.slice Q2 m2 c2]/\GX 3 RtC Nn w (.slice W ws.length W3) ws
theorem CovC.ext{ws:List PR}{w w':World}{cs:List Value}(h:CovC ws w cs)(hx:Ext w w'): CovC ws w' cs:=by
 obtain⟨W,B,O,J,G,b,D,j,y,Q2,i,u,e,h⟩:=h;exact⟨W,B,O,J,G,b,D,j,y,Q2,i,u,e,h.ext RtC.sta (by decide) hx⟩
def SF.cov(ws:List PR): SF:=⟨λv w=>∃ cs:List Value,v=.tuple #[.agg cs.toArray,.int .i64 0]/\CovC ws w cs,λh hx=>h.elim λcs h=>⟨cs,h.1,h.2.ext hx⟩⟩
def SF.cv(ws:List PR): SF:=⟨λv w=>∃ cs:List Value,v=.agg cs.toArray/\CovC ws w cs,λh hx=>h.elim λcs h=>⟨cs,h.1,h.2.ext hx⟩⟩
theorem Xxg{cb sc:Nat}{es sizes:List Nat}{kf:Nat->Nat}{pf:Nat->Int}(hG:GrV w A c n es)(hB:Rd w 3 B n (Qo n (Zq kf pf)))(hk:∀ v,v<n->kf v<4294967296)(hS:Rd w 1 SA sizes.length (Jb (nz sizes)))(hsc:sizes.length<=sc)(hsl:sizes.length=es.length)(hm:es.length<=5)(hb:∀ v,v<n->BagB n es sizes (kf v ||| 2^v) (r v)):
  Ret Tryz.prog 20 [.agg (grC A c n es).toArray,.slice B n cb,.slice SA sizes.length sc] w λu w'=>∃ O us,u=.tuple #[.slice O n n,.int .i64 0]/\BndsO w w' O n n r us/\Ext w w':=by
 have c0:=hG.n32;have bw:IntsV w (.slice SA sizes.length sc) (nz sizes):=⟨SA,sc,by rw[nzl],by rw[nzl];exact hsc,by rw[nzl];omega,by rw[nzl];exact hS⟩;refine Jz Tryz.func20 Tryz.ntmps20 rfl kr rfl ?_;refine ρ ?_;refine bx (cs:=grC A c n es) ?_;intro w1 b3 ap c9 ba;refine ρ ?_;refine lds (cs:=grC A c n es) (λj u hu=>ba.at hu) ?_;refine ρ ?_;refine cl (Jbq (hG.ext ap)) ?_;rintro u w2 ⟨rfl,ao⟩;have aa:=ba.ext ao;have a8:=ap.trans ao;refine ρ ?_;refine ld (aa.at (i:=1) rfl) ?_;refine ρ ?_;refine Go.Wk.kf 25 ?_ ?_
 .simp[hsl]
 refine ρ ?_;refine cl (Xxk (bw.ext a8) (Qnx w2)) ?_;rintro u w3 ⟨rfl,ab⟩;have b4:((nz sizes).any λz=>decide (z<0))=false:=by
  rw[List.any_eq_false];intro z hz;obtain⟨m,_,rfl⟩:=List.mem_map.1 hz;simp
 rw[b4];refine ρ ?_;have a1:=a8.trans ab;refine ρ ?_;refine mkn ENat n om (by unfold maxLen;omega) ?_;intro w4 O am aq hO;have bz:=a1.trans am;have e0:(madeCells (Value.slice none 0 0).cells (n*1)).toList=List.replicate n (.slice none 0 0):=by rw[Nat.mul_one];exact Vw _ _
 rw[e0]at aq;refine ρ ?_;refine Qq (fun (k:Nat) (_:List Value)=>[(2,.slice SA sizes.length sc),(3,.pointer (some ⟨b3,0,none⟩)),(9,.slice O n n),(32,.slice B n cb),(33,.int .i64 (n:Int)),(34,.int .i64 (k:Int))])
  (λk us w'=>k<=n/\Ext w3 w'/\BndsO w3 w' O n k r us) (λk _=>n-k) 0 (List.replicate n (.slice none 0 0)) sB
  ⟨Nat.zero_le _,am,by simp,aq,λu hu=>⟨none,0,0,List.eq_of_mem_replicate hu⟩,λj hj=>absurd hj (Nat.not_lt_zero j)⟩ ?_
 rintro k us w5 ⟨c7,Z,a6⟩;have U:=a1.trans Z;refine ρ ?_;refine ci (λh=>?_) (λh=>?_)
 .have lk:k<n:=by have:=oT h;omega
  clear h;have b7:=hB.ext U;have ae:∀ j u,(Zq kf pf k)[j]?=some u->w5.cell? ((adr B (k*3)).add j)=some u:=λj u hu=>by
   have hj:j<3:=by grind [Nat.lt_or_ge,List.getElem?_eq_none,Zq]
   rw[Gh];exact b7.cell ((Jhp (sz:=3) (λ_ _=>rfl) lk hj).trans hu)
  obtain⟨az,ay,af,c4,pc,K,K2,ad,bl,aw,bi,bp,bh,bq,ax,bj,hK,bu,bt,av,ac⟩:=hb k lk;refine ρ ?_;refine ixq 3 k b7 lk ?_;refine ρ ?_;refine lds (cs:=Zq kf pf k) ae ?_;refine ρ ?_;refine alc zBag ?_;intro w6 cc bf b2 bc;refine ρ ?_;refine stb (cs':=Zq kf pf k) bc ?_ Jgc;intro w7 ai hg7 be;have ak:Ext w5 w7:=be w5 bf b2;have G:Ext w5 w7.drew:=ak.trans (Ext.refl w7).drew;have ah:=ai.ext (Ext.refl w7).drew;have b8:=((aa.ext ab).ext Z).ext G;have an:=ab.trans (Z.trans G);refine ρ ?_;have c8:=an;refine drH (λi=>Nat.ble 8 i) ?_;refine hcut 2 (lst 10 8) (fun (y:List Value×Nat)=>[(44,.agg y.1.toArray),(45,.int .i64 0),(12,.pointer (some ⟨y.2,0,none⟩)),(2,.slice SA sizes.length sc),(3,.pointer (some ⟨b3,0,none⟩)),(9,.slice O n n),(10,.int .i64 (k:Int)),(32,.slice B n cb),(33,.int .i64 (n:Int)),(34,.int .i64 (k:Int))])
   (λy W=>Ext w7.drew W/\CovC pc.ws W y.1/\Blk W y.2 60 [.slice none 0 0,.slice none 0 0,.bool false,.slice none 0 0,.slice none 0 0]/\w7.drew.heap.size<=y.2) ?_ ?_
  rotate_left
  .intro rest;refine Qxj 11 6 2 _ (lst 10 8) [0,1,2,3,4,5,6,7] [40,41,42,43,39,44,45,12] [SF.eq (.agg (grC A c n es).toArray),SF.eq (.agg (Zq kf pf k).toArray),SF.eq (.int .u32 ((kf k ||| 2^k:Nat):Int)),SF.cov pc.ws,SF.cov pc.ws,SF.cv pc.ws,SF.eq (.int .i64 0),SF.bxz w7.drew.heap.size] kr (by rfl) ?_ ?_ ?_
   .refine gsc (λvs w9 D hd=>?_) ?_
    .simp only[slM];refine lds (cs:=grC A c n es) (λj u hu=>(b8.ext D).at hu) ?_;refine ρ ?_;exact Xs (Ext.refl _) rfl
    refine gsc (λvs w9 D hd=>?_) ?_
    .simp only[slM];refine lds (cs:=Zq kf pf k) (λj u hu=>(ah.ext D).at hu) ?_;refine ρ ?_;exact Xs (Ext.refl _) rfl
    refine gsc (λvs w9 D hd=>?_) ?_
    .have e1:vs 1=_:=hd 1;simp only[slM,e1];refine cl (Qzw om (hk k lk) _) ?_;rintro u W ⟨rfl,hy⟩;exact Je (Xs hy rfl)
    refine gsc (λvs w9 D hd=>?_) ?_
    .have e0:vs 0=_:=hd 0;have e2:vs 2=_:=hd 2;simp only[slM,e0,e2];refine cl (Xqz (hG.ext ((U.trans G).trans D)) az ay hm af ad bl) ?_;rintro u W ⟨W0,P0,q1,q2,rfl,hW,hP,bo,bn,hy⟩;obtain⟨W1,W3,_,rfl,_⟩:=id hW.el;obtain⟨P1,P3,_,rfl,_⟩:=id hP.el;obtain⟨Q1,m1,c1,rfl⟩:=bo.1.slc;obtain⟨Q2,m2,c2,rfl⟩:=bn.1.slc;exact Je (Xs hy ⟨_,rfl,W1,W3,P1,_,P3,_,Q1,m1,c1,Q2,m2,c2,rfl,hW⟩)
    refine gsc (λvs w9 D hd=>?_) ?_
    .obtain⟨cs,e3,J⟩:=hd 3;simp only[slM,e3];refine ρ ?_;exact Xs (Ext.refl _) ⟨cs,rfl,J⟩
    refine gsc (λvs w9 D hd=>?_) ?_
    .obtain⟨cs,e4,J⟩:=hd 4;simp only[slM,e4];refine ρ ?_;exact Xs (Ext.refl _) ⟨cs,rfl,J⟩
    refine gsc (λvs w9 D hd=>?_) ?_
    .obtain⟨cs,e4,J⟩:=hd 4;simp only[slM,e4];refine ρ ?_;exact Xs (Ext.refl _) rfl
    refine gsc (λvs w9 D hd=>?_) gse
    simp only[slM];refine alc Jqm ?_;intro W b9 hy br a7;exact Je (Xs hy ⟨b9,rfl,a7,Nat.le_trans D.size br⟩)
   .intro vs W hy hf;obtain⟨b9,e7,a7,h9⟩:=hf 7;obtain⟨cs,e5,J⟩:=hf 5;have e6:vs 6=_:=hf 6;simp only[slM,e7,e6,e5];exact rest (cs,b9) _ _ ⟨hy,J,a7,h9⟩ sB
   intro _ vs W hy hf;obtain⟨b9,e7,a7,h9⟩:=hf 7;obtain⟨cs,e5,J⟩:=hf 5;obtain⟨ca,e4,_⟩:=hf 4;simp only[slM,e7,e5,e4];refine hpur (fuel':=2) 6 kr kr rfl rfl ?_;refine ρp ?_;refine ρd ?_;refine Yq ?_;refine hlist (listed':=lst 10 8) kr ?_;exact rest (cs,b9) _ _ ⟨hy,J,a7,h9⟩ sB
  rintro⟨cs,b9⟩ W ⟨bd,⟨WA,W3,P1,P2,P3,bb,Q1,m1,c1,Q2,m2,c2,e,bs⟩,ag,b1⟩;simp only at e ag b1;subst e;refine Ux (fuel':=0) 11 [(2,8),(2,9)] (lst 10 10) kr kr rfl ?_;refine Jd ?_;refine stW ag ?_;intro W2 b6 au a2;refine Je (Qf ?_);refine Jd ?_;refine ρ ?_;refine Qf ?_;refine Jzh (Yq ?_);refine Vz kr ?_;have aj:Ext w7.drew W2:=a2 w7.drew bd b1;have a3:=G.trans aj;have b5:=(Xxb bs ag aw).gr RtC.sta (by decide) (GrN.by (N:=λq=>q=b9) au λq e=>by injection e with e;exact e.symm);have a2:=U.trans a3;refine ρ ?_;refine lds (cs:=[.slice WA pc.ws.length W3,.slice P1 P2 P3,.bool bb,.slice Q1 m1 c1,.slice Q2 m2 c2]) (λj u hu=>b6.at hu) ?_;refine ρ ?_;refine cl (Xkh (sizes:=sizes) (b5.old RtC.sta (by decide) λk hk=>hk.elim) (hS.ext a2) bi bp bh bq ax bj hK bu bt av) ?_;rintro u c5 ⟨⟨v,r',rfl,hv,hr⟩,a9⟩;rw[ac r' hr]at hv;obtain⟨VA,vn,vc,rfl⟩:=hv.slc
  have a5:=a6.ext (a3.trans a9);obtain⟨c6,a4,_,_⟩:=id a5;obtain⟨_,_,_,_,bm⟩:=Jv a4;obtain⟨s1,s2,s3,s4,s5⟩:=Xp a4 (q:=k) om (.slice VA vn vc);have bg:us[k]?=some (us.getD k (.slice none 0 0)):=by grind
  refine ρ ?_;refine ix k (Rd.own a4) lk ?_;refine ρ ?_;refine sto (s1.trans bg) s2 ?_;refine ρ ?_;exact Ju (k+1) (us.set k (.slice VA vn vc)) sO ⟨lk,Ja (Z.trans (a3.trans a9)) s5 λg hg=>(bm g hg).1,a5.put lk hv s3 s5⟩ om
 have ar:k=n:=by have:=oF h;omega
 subst ar;refine ρ ?_;exact Xb ⟨O,us,rfl,⟨a6.1,Kj a6.2.1 a1.size,a6.2.2.1,a6.2.2.2⟩,U⟩
end Go.Proofs.YtebiphhfkdbpfaaGreatDoor
namespace Go.Proofs.YtebiphhfkdbpfaaGreatDoor
open Go.RowKit Pl Go.Wk Bl Nw
variable {a n set:Nat}
theorem Qdz{q:PR}(h:q.neg=false): 0<=q.sign:=by
 unfold PR.sign;rw[h];split
 .exact Int.le_refl _
 show(0:Int)<=if false=true then -1 else 1
 decide
def KP: Nat:=3301
def KQ: Nat:=3400
theorem pw11(h:a<=300): 2048^a<2^KP:=by
 rw[show 2048=2^11 from rfl,<-Nat.pow_mul];exact Nat.pow_lt_pow_right (by decide) (by unfold KP;omega)
theorem Xws{es sizes:List Nat}(hdiv:Gl KQ)(h5:es.length<=5)(hl:sizes.length=es.length)(hs:∀ s∈sizes,s<2048)(hlt:set<2^n)(h0:set≠0)(hc:Uu n es set): BagB n es sizes set (Ut n es sizes set):=by
 obtain⟨B,a9,u,hb⟩:=Jmc h5 h0 hlt hc;obtain⟨he,hr⟩:=hb sizes hl;have a4:sizes.length=B.ws.length:=by rw[hl,u.len]
 have a6:Vo B.ws sizes (dnm B.ws)=prN es.length λk=>sizes.getD k 0^exK B.ws k:=by
  rw[Jsq a4,u.len];rfl
 obtain⟨_,a2,a3⟩:=u.d60;have a5:=u.tot5 hc;have J:sN es.length (exK B.ws)<=300:=nL a5 (Nat.mul_le_mul a3 h5);obtain⟨G,_,aa⟩:=Jcf u.nrm;have a1:∀ q∈B.ws,Vr q (dnm B.ws)<=300:=λq j=>by
  obtain⟨k,hk,rfl⟩:=List.getElem_of_mem j;have Z:=sN_ge (f:=exK B.ws) (show k<es.length by rw[<-u.len];exact hk);unfold exK at Z;rw[Qv pr0 hk]at Z;exact nL Z J
 have D:∀ q∈B.ws,q.neg=false:=λq j=>Jnr (u.nrm q j) (u.nn q j);have y:∀ q∈B.ws,0<q.den/\q.den<=60:=λq j=>⟨Nat.pos_of_ne_zero (u.nrm q j).den,Nat.le_trans (Nat.le_of_dvd a2 (G q j)) a3⟩;have U:∀ q∈B.ws,q.num<=300:=λq j=>by
  have Z:=a1 q j;rw[Jhr (u.nrm q j) (D q j) (G q j)]at Z;have h2:1<=dnm B.ws / q.den:=Nat.div_pos (Nat.le_of_dvd a2 (G q j)) (y q j).1;have:=Nat.mul_le_mul_left q.num h2;omega
 have a8:∀ k,sizes.getD k 0<=2048:=λk=>by
  by_cases hk:k<sizes.length
  .rw[Qv 0 hk];exact Nat.le_of_lt (hs _ (List.getElem_mem _))
  rw[List.getD,List.getElem?_eq_none om];exact Nat.zero_le _
 have O:∀ i,i<=es.length->(prN i λk=>sizes.getD k 0^exK B.ws k)<2^KP:=λi hi=>by
  refine Nat.lt_of_le_of_lt (Jtb (a:=2048) (s:=λk=>sizes.getD k 0) (e:=exK B.ws) λk _ _=>a8 k) (pw11 (nL (Qfk hi) J))
 refine⟨hlt,h0,hc,Jxz n es set,B,KP,KQ,Nat.le_refl _,a9,λq j=>(y q j).1,λq j=>⟨Qdz (D q j),by have:=U q j;omega⟩,λi hi=>?_,λq j=>⟨by have:=U q j;omega,by have:=y q j;omega,by rw[(u.nrm q j).norm];exact(y q j).1,by rw[(u.nrm q j).norm];have:=y q j;omega⟩,a2,om,⟨by unfold KP;decide,a4,λq j=>?_,λs a7=>by have:=hs s a7;omega,λi hi=>?_,λi Z h2=>?_⟩,by unfold KQ;decide,by unfold KQ;decide,?_,hdiv,λx hx=>?_⟩
 .have Z:dnK B.ws i ∣ dnm B.ws:=by
   unfold dnK;exact(Jcf λq j=>u.nrm q (List.mem_of_mem_take j)).2.2 _ λq j=>G q (List.mem_of_mem_take j)
  have:=Nat.le_of_dvd a2 Z;omega
 .have hn:=U q j;have hd:=y q j;have e1:=Qjm (u.nrm q j) (D q j) (G q j);have Z:=a1 q j;rw[Jhr (u.nrm q j) (D q j) (G q j)]at Z;refine⟨om,om,om,by rw[Jxp];show dnm B.ws<_;omega,by rw[Jxp];show 1<_;decide,?_,?_,?_,Nat.le_trans (a1 q j) (by decide)⟩
  .rw[Jxp,Jgg,(u.nrm q j).norm];show q.den*1<_;omega
  .rw[Jxp,e1];show q.num*(dnm B.ws / q.den)<_;omega
  rw[Jxp,e1];show 1<_;decide
 .rw[Jfs a4 i hi];exact O i (by rw[<-u.len];exact hi)
 .refine Nat.lt_of_le_of_lt (Nat.pow_le_pow_left (Nat.le_of_lt (hs _ (List.getElem_mem h2))) _) (pw11 (a1 _ (List.getElem_mem Z)))
 .rw[a6];have:=Jgz (O es.length (Nat.le_refl _));unfold KP at this;unfold KQ;omega
 rw[a6]at hx;exact Jfk hx hr
open Go.RowKit Pl Go.Wk Bl Nw
attribute [local irreducible] WC WL QX WD WDB WP WN WG WH
variable {t x:Int}{w:World}
theorem Qst{A:Option Addr}{n c:Nat}{zs:List Int}(hR:Rd w 1 A n (Jb zs))(hn:zs.length=n)(hm:n<=1100000): Ret Tryz.prog 82 [.slice A n c,.int .i64 t] w λu w'=>w'=w/\((u=.int .i64 (-1)/\t ∉ zs)∨∃ k:Nat,u=.int .i64 k/\k<n/\zs.getD k 0=t):=by
 refine Jz Tryz.func82 Tryz.ntmps82 rfl kr rfl ?_;refine ρ ?_;refine Js (fun (k:Nat)=>[(0,.slice A n c),(1,.int .i64 t),(7,.int .i64 (n:Int)),(8,.int .i64 (k:Int))]) (λk w'=>w'=w/\k<=n/\t ∉ zs.take k) (λk=>n-k) 0 sB ⟨rfl,Nat.zero_le _,by simp⟩ ?_;rintro k w' ⟨rfl,j,y⟩;refine ρ ?_;refine ci (λh=>?_) (λh=>?_)
 .have lk:k<n:=by have:=oT h;omega
  have i:k<zs.length:=om
  refine ρ ?_;refine ix k hR lk ?_;refine ρ ?_;refine ld (hR.cell (Kb i)) ?_;refine ρ ?_;refine ci (λh=>?_) (λh=>?_)
  .refine ρ ?_;exact Jq ⟨rfl,.inr ⟨k,rfl,lk,by grind⟩⟩
  refine ρ ?_;refine Jp (k+1) sO ⟨rfl,om,?_⟩ om;rw[Qr 0 i,List.mem_append,List.mem_singleton];grind
 refine ρ ?_;refine Jq ⟨rfl,.inl ⟨rfl,?_⟩⟩;grind
def Iy(d:Atm->Nat)(x:Int)(e:Int)(a:Atm): Int:=if x∈a.vars then(if e<0∨(d a:Int)<e then(d a:Int) else e) else e
def Xx(d:Atm->Nat)(x:Int)(ats:List Atm): Int:=ats.foldl (Iy d x) (-1)
theorem Qzn(d:Atm->Nat)(x:Int)(l:List Atm)(a:Atm): Xx d x (l++[a])=Iy d x (Xx d x l) a:=by simp[Xx]
structure CntA(d:Atm->Nat)(x:Int)(a:Atm): Prop where
 asc:Ir a.vars
 ar:a.vars.length=a.ar
 len:∀ r∈a.rows,r.length=a.ar
 few:a.rows.length<=12
 cnt:∀(col:Nat) (m:List Row),col<a.vars.length->a.vars.getD col 0=x->Zn [] (a.rows.map (pmR [col])) m->m.length=d a
theorem Qtx{d:Atm->Nat}{v:Value}{inp:Inp}(h:InV w v inp)(hA:∀ a∈inp.ats,CntA d x a):
  Ret Tryz.prog 43 [v,.int .i64 x] w λu w'=>u=.int .i64 (max (Xx d x inp.ats) 0)/\Ext w w':=by
 obtain⟨cs,rfl,vd,vp,va,rfl,hD,hP,J,A,c,aa,rfl,bo,bn,hR,bd⟩:=h;obtain⟨DA,dc,rfl,_⟩:=id hD;obtain⟨PA,pc,rfl,_⟩:=id hP;have ah:inp.ats.length=J.length:=by rw[aa,List.length_map]
 refine Jz Tryz.func43 Tryz.ntmps43 rfl kr rfl ?_;refine ρ ?_;refine bx ?_;intro w1 b2 b3 br bh;refine ρ ?_;refine ld (bh.at (i:=4) rfl) ?_;refine ρ ?_;refine Js (fun (k:Nat)=>[(1,.int .i64 x),(2,.pointer (some ⟨b2,0,none⟩)),(5,.int .i64 (Xx d x (inp.ats.take k))),(12,.slice A J.length c),(13,.int .i64 (J.length:Int)),(14,.int .i64 (k:Int))])
  (λk w'=>k<=J.length/\Ext w w') (λk=>J.length-k) 0 sB ⟨Nat.zero_le _,b3⟩ ?_
 rintro k w2 ⟨hk,G⟩;refine ρ ?_;refine ci (λh=>?_) (λh=>?_)
 .have lk:k<J.length:=by have:=oT h;omega
  clear h;have hp:=bd _ (Kr rfl lk);have aj:∀ j u,(J.getD k ta0).1.cells[j]?=some u->w2.cell? ((adr A (k*3)).add j)=some u:=λj u hu=>Kc (hR.ext G) rfl lk hu;have a3:inp.ats.take (k+1)=inp.ats.take k++[(J.getD k ta0).2]:=by
   rw[aa,<-List.map_take,<-List.map_take,Qr ta0 lk,List.map_append];rfl
  have D:=hA (J.getD k ta0).2 (by rw[aa];exact List.mem_map_of_mem (Kr rfl lk));generalize hq:J.getD k ta0=q at hp aj a3 D
  obtain⟨⟨t1,t2,t3⟩,a⟩:=q;simp only at D a3;have ae:=hp.ext G;obtain⟨⟨QA,qc,ap,bm,b5,b4⟩,ao,a4⟩:=id ae;simp only at ap ao;obtain⟨a1,PG,a2,bs,an,_⟩:=id a4;simp only at an;subst ap;subst ao;subst an;refine ρ ?_;refine ixq 3 k (hR.ext G) lk ?_;refine ρ ?_;refine lds (cs:=[.slice QA a.vars.length qc,.int .i64 (a.ar:Int),.slice PG a1.length a2]) aj ?_;refine ρ ?_;refine alc Yg ?_;intro w3 b7 b1 bc bg;refine ρ ?_;refine stb (cs':=[.slice QA a.vars.length qc,.int .i64 (a.ar:Int),.slice PG a1.length a2]) bg ?_ (Jjq rfl);intro w4 a7 bq az;have O:Ext w2 w4:=az w2 b1 bc;refine ρ ?_;refine ld (a7.at (i:=0) rfl) ?_;refine ρ ?_;refine cl (Qst (b4.ext O) rfl b5) ?_;rintro u w5 ⟨rfl,⟨rfl,b6⟩|⟨aq,rfl,a9,ai⟩⟩
  .have e:Xx d x (inp.ats.take (k+1))=Xx d x (inp.ats.take k):=by rw[a3,Qzn,Iy,if_neg b6]
   refine ρ ?_;rw[<-e];exact Jp (k+1) sO ⟨lk,G.trans O⟩ om
  have ag:x∈a.vars:=by
   rw[<-ai];exact getD_mem' 0 _ a9
  refine ρ ?_;refine lds (cs:=[.int .i64 (a.ar:Int),.slice PG a1.length a2]) (a7.sub2 (i:=1) rfl rfl) ?_;refine ρ ?_;refine bsl (Jzl _) ?_;intro w6 bi ay bj am;have a6:=O.trans ay;have ak:RelV w6 (.agg #[.int .i64 (a.ar:Int),.slice PG a1.length a2]) a.ar a.rows:=(ae.ext a6).rel;have ba:IntsV w6 (.slice (some ⟨bi,0,none⟩) 1 1) (nz [aq]):=⟨_,1,rfl,Nat.le_refl _,by simp[nz],am.rd (n:=1) rfl⟩;refine ρ ?_;refine cl (Jfl ak ba D.len (λc hc=>by rw[List.mem_singleton.1 hc,<-D.ar];exact a9) (by simp) (by have:=D.few;omega)) ?_;rintro u w7 ⟨ax,rv,rfl,⟨z,RB,rm,rd,rfl⟩,m,af,_,_,ad⟩;have U:=D.cnt aq m a9 ai (ad (.inl D.few));refine ρ ?_;refine alc Yf ?_;intro w8 b9 aw bb bf;refine ρ ?_;refine stb (cs':=[.int .i64 z,.slice RB rm rd]) bf ?_ (λu hu=>by
   simp only[List.mem_cons,List.not_mem_nil,or_false]at hu;rcases hu with rfl|rfl<;>rfl)
  intro w9 Z bp av;have a5:Ext w7 w9:=av w7 aw bb;have ab:=a6.trans (ax.trans a5);have hM:=af.here.ext a5;have a8:=G.trans ab;have es:∀ e:Int,(if e<0∨(d a:Int)<e then(d a:Int) else e)=Iy d x e a:=λe=>by rw[Iy,if_pos ag]
  have B:=es (Xx d x (inp.ats.take k));rw[<-Qzn,<-a3]at B;refine ρ ?_;refine ρ ?_;refine ki 37 (λh=>?_) (λh=>?_)
  .have h:=oT h;refine ρ ?_;refine lds (cs:=[.int .i64 z,.slice RB rm rd]) (λj u hu=>Z.at hu) ?_;refine ρ ?_;refine cl (Gt hM) ?_;rintro u au ⟨rfl,y⟩;rw[U];refine ρ ?_;rw[if_pos (.inl h)]at B;rw[B];exact Jp (k+1) sO ⟨lk,a8.trans y⟩ om
  have h:=oF h;refine ρ ?_;refine lds (cs:=[.int .i64 z,.slice RB rm rd]) (λj u hu=>Z.at hu) ?_;refine ρ ?_;refine cl (Gt hM) ?_;rintro u au ⟨rfl,y⟩;rw[U];have be:=hM.ext y;refine ρ ?_;refine ci (λh2=>?_) (λh2=>?_)
  .have h2:=oT h2;refine ρ ?_;refine lds (cs:=[.int .i64 z,.slice RB rm rd]) (λj u hu=>(Z.ext y).at hu) ?_;refine ρ ?_;refine cl (Gt be) ?_;rintro u bl ⟨rfl,ac⟩;rw[U];refine ρ ?_;rw[if_pos (.inr h2)]at B;rw[B];exact Jp (k+1) sO ⟨lk,a8.trans (y.trans ac)⟩ om
  have h2:=oF h2;refine ρ ?_;rw[if_neg (λh'=>h'.elim h h2)]at B;rw[B];exact Jp (k+1) sO ⟨lk,a8.trans y⟩ om
 have b8:k=J.length:=by have:=oF h;omega
 subst b8;rw[<-ah,List.take_length];refine ρ ?_;refine Jq ⟨?_,G⟩;exact congrArg (Value.int .i64) (by split<;>omega)
open Go.RowKit Pl Go.Wk Bl Nw
variable {perm sizes:List Nat}{r:Nat->Nat}{w w' w0:World}
theorem zEst: Qe Tryz.prog 42=some (.agg #[.int .i64 0,.int .i64 0,.slice none 0 0,.slice none 0 0]):=kr
theorem Xkw(a b:Int)(A B:Option Addr)(n c m d:Nat)(w:World): (Instr.build 42 #[(0,.int .i64 a),(1,.int .i64 b),(2,.slice A n c),(3,.slice B m d)]).run Tryz.prog w=.ok (.agg #[.int .i64 a,.int .i64 b,.slice A n c,.slice B m d]) w:=kr
theorem EIs: ElT Tryz.prog 28 22 1 24 (.slice none 0 0):=⟨Tryz.underlying28,info_parts kr,rfl,by decide⟩
theorem bs0Is(w:World): (Instr.buildSlice 28 0 #[]).run Tryz.prog w=.ok (.slice (some ⟨w.heap.size,0,none⟩) 0 0) (w.alloc (.cells ([]:List Value).toArray 22)):=kr
theorem bs0I(w:World): (Instr.buildSlice 22 0 #[]).run Tryz.prog w=.ok (.slice (some ⟨w.heap.size,0,none⟩) 0 0) (w.alloc (.cells ([]:List Value).toArray 3)):=kr
theorem Qvc(A:Option Addr)(n c:Nat)(w:World): (Instr.buildSlice 28 1 #[(0,.slice A n c)]).run Tryz.prog w=.ok (.slice (some ⟨w.heap.size,0,none⟩) 1 1) (w.alloc (.cells [.slice A n c].toArray 22)):=kr
theorem BndsO.box{A:Option Addr}{n k b t:Nat}{us cs:List Value}(h:BndsO w0 w A n k r us)(hB:Blk w b t cs)(hcs:∀ u∈cs,∀ x,u≠.int .u32 x)(hne:Nat.beq 40 t=false)(hg:GrN (λq=>q=b) w w'): BndsO w0 w' A n k r us :=
 ⟨h.1,Qj h.2.1 hg λg i e=>by rw[e]at i;exact hB.ne_own h.2.1 hne i.symm,h.2.2.1,λj B=>by
  obtain⟨u,e,y⟩:=h.2.2.2 j B;exact⟨u,e,((Jbb hB hcs y).gr hg).1⟩⟩
structure CostI(n f:Nat)(perm:List Nat)(vss:List (List Nat))(sizes:List Nat)(d:Nat->Atm->Nat)(r:Nat->Nat)(inp:Inp): Prop where
 chk:Gd inp
 en:inp.n=(n:Int)
 ef:inp.free=(f:Int)
 ep:inp.perm=nz perm
 ev:inp.ats.map (·.vars)=vss.map nz
 es:inp.ats.map (λa=>a.rows.length)=sizes
 five:inp.ats.length<=5
 pok:PermOk n f perm
 n32:n<=32
 vlt:∀ vs∈vss,∀ x∈vs,x<n
 cnt:∀ x,x<f->∀ a∈inp.ats,CntA (d x) (x:Int) a
 bag:∀ kf pf,Yd n (vss.map Xt) (Zc perm f) kf pf->∀ v,v<n->BagB n (vss.map Xt) sizes (kf v ||| 2^v) (r v)
 sumN:Nb (((List.range n).map r).foldl (· + ·) 0)
 subN:∀ i,i<=n->Nb ((((List.range n).map r).take i).foldl (· + ·) 0)
 oneN:∀ x∈(List.range n).map r,Nb x
def Jdp(f:Nat)(d:Nat->Atm->Nat)(inp:Inp): Nat:=hgS ((List.range f).map λx:Nat=>max (Xx (d x) (x:Int) inp.ats) 0)
theorem Qkw{B0 n f:Nat}{vss:List (List Nat)}{d:Nat->Atm->Nat}{v:Value}{inp:Inp}(hT:FB B0 w)(hC:CostI n f perm vss sizes d r inp)(h:InV w v inp):
  Ret Tryz.prog 17 [v] w λu w'=>∃ O us VS vn vc,u=.tuple #[.agg #[.int .i64 (Jdp f d inp:Int),.int .i64 (Jdp f d inp:Int),.slice O n n,.slice VS vn vc],.int .i64 0]/\BndsO w w' O n n r us/\NatV w' (.slice VS vn vc) (((List.range n).map r).foldl (· + ·) 0)/\Ext w w':=by
 have bf:=h;obtain⟨cs,rfl,vd,vp,va,rfl,hD,hP,dg⟩:=h;obtain⟨ts,A,c,c7,rfl,f9,f8,hR,e8⟩:=id dg;obtain⟨DA,dc,rfl,_⟩:=id hD;obtain⟨PA,pc,rfl,f7,f6,dw⟩:=id hP;have cw:=hC.n32;have fe:=hC.pok.fn;have cy:inp.ats.length=ts.length:=by rw[c7,List.length_map]
 have bt:vss.length=ts.length:=by have:=congrArg List.length hC.ev;simp only[List.length_map]at this;omega
 have e2:sizes.length=ts.length:=by rw[<-hC.es,List.length_map,cy]
 have h5:ts.length<=5:=by have:=hC.five;omega
 refine Jz Tryz.func17 Tryz.ntmps17 rfl kr rfl ?_;refine ρ ?_;refine bx ?_;intro w1 b1 cn ff eo;refine ρ ?_;refine alc zEst ?_;intro w2 b2 ck e7 em;have ao:=eo.ext ck;have b4:=cn.trans ck;refine ρ ?_;refine ldW ao ?_;refine ρ ?_;refine cl (Qxg (bf.ext b4) (by rw[hC.en];omega) (by rw[hC.ef];omega)) ?_;rintro u w3 ⟨ax,e,rfl,he⟩;obtain rfl:e=0:=he.2 hC.chk;have a5:=b4.trans ax;refine ρ ?_;refine bsl bs0Is ?_;intro w4 dl bq d6 de;refine ρ ?_;refine bsl bs0I ?_;intro w5 dk bp d5 db;have ch:=a5.trans bq;have b5:=bq.trans bp;have ew:=ch.trans bp;have df:=(ao.ext ax).ext b5;refine ρ ?_;refine ld (df.at (i:=4) rfl) ?_;have eb:OX 22 1 NtC (λq=>w3.heap.size<=q) w5 w3.heap.size (.slice (some ⟨dl,0,none⟩) 0 0) ([]:List (List Nat)):=⟨[],rfl,(de.ext bp).own (n:=0) d6 rfl (Nat.zero_le _),λp hp=>by cases hp⟩;have e9:w5.ownsRow w3.heap.size 3 1 (.slice (some ⟨dk,0,none⟩) 0 0) 0 (Jb (nz [])):=db.own (n:=0) (nL bq.size d5) rfl (Nat.zero_le _)
 refine ρ ?_;refine Xf (fun (k:Nat) (vs vz:Value)=>[(1,.pointer (some ⟨b1,0,none⟩)),(2,.pointer (some ⟨b2,0,none⟩)),(3,.int .i64 0),(5,vs),(6,vz),(25,.slice A ts.length c),(26,.int .i64 (ts.length:Int)),(27,.int .i64 (k:Int))])
  (λk vs vz w'=>k<=ts.length/\Ext w3 w'/\OX 22 1 NtC (λq=>w3.heap.size<=q) w' w3.heap.size vs (vss.take k)/\w'.ownsRow w3.heap.size 3 1 vz k (Jb (nz (sizes.take k)))) (λk _ _=>ts.length-k) 0 (.slice (some ⟨dl,0,none⟩) 0 0) (.slice (some ⟨dk,0,none⟩) 0 0) sB
  ⟨Nat.zero_le _,b5,by rw[List.take_zero];exact eb,by rw[List.take_zero];exact e9⟩ ?_
 rintro k vs vz w6 ⟨hk,a6,ak,b3⟩;have Z:=a5.trans a6;obtain⟨SA,sc,rfl,du,bs⟩:=ak.form;obtain⟨ZA,zc,rfl,f2,ce⟩:=Jv b3;have co:(vss.take k).length=k:=by rw[List.length_take];omega
 rw[co]at ak du bs ⊢;refine ρ ?_;refine ci (λh=>?_) (λh=>?_)
 .have lk:k<ts.length:=by have:=oT h;omega
  clear h;have cd:k<vss.length:=om
  have cc:k<sizes.length:=om
  have hp:=e8 _ (Kr rfl lk);have d4:∀ j u,(ts.getD k ta0).1.cells[j]?=some u->w6.cell? ((adr A (k*3)).add j)=some u:=λj u hu=>Kc (hR.ext Z) rfl lk hu;have az:(ts.getD k ta0).2.vars=nz (vss.getD k []):=by
   have e1:(inp.ats.map (·.vars))[k]?=(vss.map nz)[k]?:=by rw[hC.ev]
   rw[c7]at e1;simpa [List.getElem?_eq_getElem lk,List.getElem?_eq_getElem cd,List.getD] using e1
  have bu:(ts.getD k ta0).2.rows.length=sizes.getD k 0:=by
   have e1:(inp.ats.map λa=>a.rows.length)[k]?=sizes[k]?:=by rw[hC.es]
   rw[c7]at e1;simpa [List.getElem?_eq_getElem lk,List.getElem?_eq_getElem cc,List.getD] using e1
  generalize hq:ts.getD k ta0=q at hp d4 az bu
  obtain⟨⟨t1,t2,t3⟩,a⟩:=q;simp only at az bu;obtain⟨⟨QA,qc,dj,f5,f4,f3⟩,di,ay⟩:=id hp;simp only at dj di;obtain⟨au,PG,av,fg,dh,_⟩:=id ay;simp only at dh;subst dj;subst di;subst dh;refine ρ ?_;refine ixq 3 k (hR.ext Z) lk ?_;refine ρ ?_;refine lds (cs:=[.slice QA a.vars.length qc,.int .i64 (a.ar:Int),.slice PG au.length av]) d4 ?_;refine ρ ?_;refine alc Yg ?_;intro w7 b8 bo e6 ek;refine ρ ?_;refine stb (cs':=[.slice QA a.vars.length qc,.int .i64 (a.ar:Int),.slice PG au.length av]) ek ?_ (Jjq rfl);intro w8 bi fd bn;have cj:Ext w6 w8:=bn w6 bo e6;refine ρ ?_;refine ld (bi.at (i:=0) rfl) ?_;refine ρ ?_;refine bsl (Qvc _ _ _) ?_;intro w9 fi aw f0 da;have y:=cj.trans aw;have a9:=a6.trans y;have ee:∀ u,Ext w3 u->IntsV u (.slice QA a.vars.length qc) (nz (vss.getD k [])):=λu hu=>by
   have:=(hp.ext (a5.trans hu)).1;rw[az]at this;rwa [az]
  have be:=ak.ext NtC.sta y;obtain⟨_,_,bd⟩:=id be.own;have bc:=Jh b3 y;have bh:=bi.ext aw;refine ρ ?_;refine apX EIs NtC.sta be da rfl (λu hu=>by rw[List.mem_singleton.1 hu];rfl) ⟨_,rfl,Off.old ee a9 λq hq=>hq⟩ (λg hg=>(bs g hg).1) om (by decide) a9.size ?_;intro ds aq c2 ah _;have ab:Ext w3 aq:=Ja a9 ah λg eg=>(bs g eg).1;have bz:=Qj bc (GrN.by (N:=λq=>(Value.slice SA k sc).ownBlock=some q) ah λq e=>e) λg eg e=>Kq bd bc kr e eg;have c4:=bh.grown ah (bh.ne_own bd rfl);refine ρ ?_;refine lds (cs:=[.int .i64 (a.ar:Int),.slice PG au.length av]) (c4.sub2 (i:=1) rfl rfl) ?_;have d7:RelV aq (.agg #[.int .i64 (a.ar:Int),.slice PG au.length av]) a.ar a.rows:=(hp.ext (a5.trans ab)).rel;refine ρ ?_;refine cl (Gt d7) ?_;rintro u bl ⟨rfl,ae⟩;refine ρ ?_;refine bsl (Jzl _) ?_;intro dn fh ad ez d9;have J:=ae.trans ad;have aa:=ab.trans J;have ai:=Jh bz J
  have aj:=c2.ext NtC.sta J;obtain⟨_,_,c0⟩:=id aj.own;refine ρ ?_;refine apb (m':=1) (news:=[.int .i64 (a.rows.length:Int)]) EI ai (d9.rd (n:=1) rfl) (by simp[Value.oneCell']) (by unfold maxLen;omega) om aa.size ?_;intro dq ca bw bb _;have c1:=aj.gr NtC.sta (GrN.by (N:=λq=>(Value.slice ZA k zc).ownBlock=some q) bb λq e=>e) λq e=>⟨(ce q e).1,λe'=>Kq ai c0 kr e e'⟩;have et:vss.take (k+1)=vss.take k++[vss.getD k []]:=Qr [] cd;have er:Jb (nz (sizes.take (k+1)))=Jb (nz (sizes.take k))++[.int .i64 (a.rows.length:Int)]:=by
   rw[Qr 0 cc,bu];simp[Jb,nz]
  refine ρ ?_;exact Qn (k+1) ds dq sO ⟨lk,Ja aa bb λg eg=>(ce g eg).1,by rw[et];exact c1,by rw[er];exact bw⟩ om
 have e4:k=ts.length:=by have:=oF h;omega
 subst e4;have fa:ts.length=vss.length:=bt.symm;rw[<-bt,List.take_length]at ak;rw[<-e2,List.take_length]at b3;have ea:=ak.gx (N':=Nn) NtC.sta om λk hk=>hk.elim;have an:=(ao.ext ax).ext a6;refine ρ ?_;refine ld (an.at (i:=0) rfl) ?_;rw[hC.en,<-bt];refine ρ ?_;refine cl (Qxl ea cw om hC.vlt) ?_;rintro u w7 ⟨GA,gc,rfl,hG,bo⟩;refine ρ ?_;refine alc Jql ?_;intro w8 b9 bn e5 ej;refine ρ ?_;refine stW ej ?_;intro w9 bg fc aw;have a8:Ext w7 w9:=aw w7 bn e5;have y:=bo.trans a8;have bj:=an.ext y;have cq:inp.perm.length=perm.length:=by rw[hC.ep,nzl]
 have cp:Rd w 1 PA perm.length (Jb (nz perm)):=by rw[<-cq,<-hC.ep];exact dw
 refine ρ ?_;refine ldW bg ?_;refine ρ ?_;refine ld (bj.at (i:=1) rfl) ?_;rw[hC.ef];refine ρ ?_;refine ld (bj.at (i:=3) rfl) ?_;rw[cq];refine ρ ?_;have cg:=Z.trans y;refine cl (Qzx (pc:=pc) (hG.ext a8) hC.pok (cp.ext cg)) ?_;rintro u aq ⟨a1,B,kf,pf,rfl,eh,d8⟩;have cx:sizes.length=vss.length:=om
 have d3:=Xxg (w:=aq) (A:=GA) (c:=gc) (cb:=n) (SA:=ZA) (sc:=zc) (r:=r) ((hG.ext a8).ext a1) (Rd.own eh) (λv hv=>(d8 v hv).1) (Rd.own (Jh b3 (y.trans a1))) om (by rw[List.length_map];exact cx) (by rw[List.length_map];omega) (hC.bag kf pf d8);rw[cx]at d3;refine ρ ?_;refine ldW (bg.ext a1) ?_;refine ρ ?_;refine cl d3 ?_;rintro u bl ⟨O,us,rfl,ei,ae⟩;have a3:=y.trans (a1.trans ae);have ap:=an.ext a3;have a2:=Z.trans a3;refine ρ ?_;refine ld (ap.at (i:=1) rfl) ?_;rw[hC.ef];refine ρ ?_;refine mkn EI f om (by unfold maxLen;omega) ?_;intro dn YA ad b7 ey;have e0:(madeCells (Value.int .i64 0).cells (f*1)).toList=Jb (List.replicate f 0):=by
  rw[Nat.mul_one];refine(Vw _ _).trans ?_;simp[Jb]
 rw[e0]at b7;refine ρ ?_;refine Qq (fun (k:Nat) (_:List Int)=>[(1,.pointer (some ⟨b1,0,none⟩)),(2,.pointer (some ⟨b2,0,none⟩)),(3,.int .i64 0),(12,.slice O n n),(13,.slice YA f f),(82,.int .i64 (f:Int)),(83,.int .i64 (k:Int))])
  (λk ls w'=>k<=f/\Ext bl w'/\ls.length=f/\(∀ j:Nat,j<k->ls[j]?=some (max (Xx (d j) (j:Int) inp.ats) 0))/\w'.ownsRow bl.heap.size 3 1 (.slice YA f f) f (Jb ls)) (λk _=>f-k) 0 (List.replicate f 0) sB
  ⟨Nat.zero_le _,ad,by simp,λj hj=>absurd hj (Nat.not_lt_zero j),b7⟩ ?_
 rintro k ls ca ⟨fb,D,e3,ba,b6⟩;have c6:=ap.ext D;refine ρ ?_;refine ci (λh=>?_) (λh=>?_)
 .have lk:k<f:=by have:=oT h;omega
  clear h;refine ρ ?_;refine ldW c6 ?_;refine ρ ?_;refine cl (Qtx (d:=d k) (bf.ext (a2.trans D)) (hC.cnt k lk)) ?_;rintro u c9 ⟨rfl,a7⟩;have af:=Jh b6 a7;obtain⟨_,_,_,_,dx⟩:=Jv af;obtain⟨s1,s2,s3,s4,s5⟩:=Xp af (q:=k) om (.int .i64 (max (Xx (d k) (k:Int) inp.ats) 0));have dt:(Jb ls)[k]?=some (.int .i64 (ls.getD k 0)):=Kb om;have es:(Jb ls).set k (.int .i64 (max (Xx (d k) (k:Int) inp.ats) 0))=Jb (ls.set k (max (Xx (d k) (k:Int) inp.ats) 0)):=by simp[Jb,List.map_set]
  rw[es]at s3;refine ρ ?_;refine ix k (Rd.own af) lk ?_;refine ρ ?_;refine sto (s1.trans dt) s2 ?_;refine ρ ?_;refine Ju (k+1) (ls.set k (max (Xx (d k) (k:Int) inp.ats) 0)) sO ⟨lk,Ja (D.trans a7) s5 λg hg=>(dx g hg).1,by simp[e3],λj hj=>?_,s3⟩ om;by_cases e:j=k
  .subst e;rw[List.getElem?_set_self om]
  rw[List.getElem?_set_ne (λe'=>e e'.symm)];exact ba j om
 have cz:k=f:=by have:=oF h;omega
 subst cz;have e:ls=(List.range k).map λx:Nat=>max (Xx (d x) (x:Int) inp.ats) 0:=by
  refine List.ext_getElem? λj=>?_;by_cases lj:j<k
  .rw[ba j lj,List.getElem?_map,List.getElem?_range lj];rfl
  rw[List.getElem?_eq_none om,List.getElem?_eq_none (by simp;omega)]
 subst e;have ed:IntsV ca (.slice YA k k) ((List.range k).map λx:Nat=>max (Xx (d x) (x:Int) inp.ats) 0):=⟨YA,k,by simp,by simp,by simp;omega,by simpa using Rd.own b6⟩;refine ρ ?_;refine cl (Xzw (hT.ext (a2.trans D)) ed) ?_;rintro u c9 ⟨rfl,a7⟩;have G:=D.trans a7;have am:=ei.ext G;obtain⟨br,cr,_,dz⟩:=id am;have ec:NatsV c9 O us ((List.range n).map r):=⟨by rw[br];exact Rd.own cr,by simp[br],λi hi=>by
  have d0:i<n:=by simpa using hi
  obtain⟨u,eu,hu⟩:=dz i d0;simpa [List.getD,eu,List.getElem?_range d0] using hu⟩
 have cu:=Qpd (c:=n) ec hC.sumN (by simp;omega) (λi hi=>hC.subN i (by simpa using hi)) hC.oneN;rw[br]at cu;refine ρ ?_;refine cl cu ?_;rintro u c8 ⟨hv,_,ac⟩;obtain⟨VS,vn,vc,rfl⟩:=hv.slc;have a4:Blk c8 b2 42 [.int .i64 0,.int .i64 0,.slice none 0 0,.slice none 0 0]:=((em.ext ax).ext a6).ext (a3.trans (G.trans ac));refine ρ ?_;refine bld (Xkw _ _ _ _ _ _ _ _ _) ?_;refine ρ ?_;refine stW a4 ?_;intro dm c5 d1 cm;have ag:GrN (λq=>q=b2) c8 dm:=GrN.by d1 λq e=>by injection e with e;exact e.symm
 have d2:∀ u∈([.int .i64 0,.int .i64 0,.slice none 0 0,.slice none 0 0]:List Value),∀ x,u≠.int .u32 x:=λu hu x=>by
  simp only[List.mem_cons,List.not_mem_nil,or_false]at hu;rcases hu with rfl|rfl|rfl|rfl<;>exactλe=>by cases e
 have U:=(am.ext ac).box a4 d2 kr ag;have bm:=a2.trans (G.trans ac);refine ρ ?_;exact Xh c5 ⟨O,us,VS,vn,vc,rfl,⟨U.1,Kj U.2.1 (Z.trans (y.trans a1)).size,U.2.2.1,U.2.2.2⟩,((Jbb a4 d2 hv).gr ag).1,cm w bm (nL cn.size e7)⟩
end Go.Proofs.YtebiphhfkdbpfaaGreatDoor
namespace Go.Proofs.YtebiphhfkdbpfaaGreatDoor
open Go.RowKit Pl Go.Wk
attribute [local irreducible] WC WL QX WD WDB WP
variable {r:List V}{w:World}
def RowM(w:World)(v:Value)(r:List V): Prop:=∃ A c,v=.slice A r.length c/\r.length<=c/\RdR w A r
def RowsM(w:World)(v:Value)(ls:List (List V)): Prop:=∃(ps:List Pr) (A:Option Addr) (c:Nat),ls=ps.map (·.2)/\v=.slice A ps.length c/\ps.length<=c/\Rd w 1 A ps.length (ps.map (·.1))/\∀ p∈ps,RowM w p.1 p.2
def IntsM(w:World)(v:Value)(zs:List Int): Prop:=∃ A c,v=.slice A zs.length c/\zs.length<=c/\Rd w 1 A zs.length (Jb zs)
def BoolsM(w:World)(v:Value)(ds:List Bool): Prop:=∃ A c,v=.slice A ds.length c/\ds.length<=c/\RdB w A ds
theorem RowM.ext{w w':World}{v:Value}{r:List V}(h:RowM w v r)(hx:Ext w w'): RowM w' v r:=by
 obtain⟨A,c,u,j,i⟩:=h;exact⟨A,c,u,j,i.ext hx⟩
theorem RowM.one{v:Value}(h:RowM w v r): v.oneCell'=true:=by obtain⟨A,c,rfl,_⟩:=h;rfl
theorem RowM.v{v:Value}(h:RowM w v r)(hl:r.length<=1100000): RowV w v r:=by
 obtain⟨A,c,u,j,i⟩:=h;exact⟨A,c,u,j,hl,i⟩
theorem RowV.m{v:Value}(h:RowV w v r): RowM w v r:=by
 obtain⟨A,c,u,j,_,i⟩:=h;exact⟨A,c,u,j,i⟩
theorem RowsM.ext{w w':World}{v:Value}{ls:List (List V)}(h:RowsM w v ls)(hx:Ext w w'): RowsM w' v ls:=by
 obtain⟨ps,A,c,D,B,y,u,j⟩:=h;exact⟨ps,A,c,D,B,y,u.ext hx,λp i=>(j p i).ext hx⟩
theorem RowsM.v{w:World}{v:Value}{ls:List (List V)}(h:RowsM w v ls)(hm:ls.length<=1100000)(hl:∀ r∈ls,r.length<=1100000): RowsV w v ls:=by
 obtain⟨ps,A,c,D,B,y,u,j⟩:=h;subst D;rw[List.length_map]at hm;exact⟨ps,A,c,rfl,B,y,hm,u,λp i=>(j p i).v (hl _ (List.mem_map.2 ⟨p,i,rfl⟩))⟩
theorem RowsV.m{w:World}{v:Value}{ls:List (List V)}(h:RowsV w v ls): RowsM w v ls:=by
 obtain⟨ps,A,c,D,B,y,_,u,j⟩:=h;exact⟨ps,A,c,D,B,y,u,λp i=>(j p i).m⟩
theorem RowsM.form{v:Value}{ls:List (List V)}(h:RowsM w v ls): ∃ A c,v=.slice A ls.length c/\ls.length<=c:=by
 obtain⟨ps,A,c,u,j,i,_⟩:=h;subst u;exact⟨A,c,by rw[List.length_map];exact j,by rw[List.length_map];exact i⟩
theorem IntsM.ext{w w':World}{v:Value}{r:List Int}(h:IntsM w v r)(hx:Ext w w'): IntsM w' v r:=by
 obtain⟨A,c,u,j,i⟩:=h;exact⟨A,c,u,j,i.ext hx⟩
theorem IntsM.v{v:Value}{r:List Int}(h:IntsM w v r)(hl:r.length<=1100000): IntsV w v r:=by
 obtain⟨A,c,u,j,i⟩:=h;exact⟨A,c,u,j,hl,i⟩
theorem BoolsM.ext{w w':World}{v:Value}{r:List Bool}(h:BoolsM w v r)(hx:Ext w w'): BoolsM w' v r:=by
 obtain⟨A,c,u,j,i⟩:=h;exact⟨A,c,u,j,i.ext hx⟩
theorem BoolsM.v{v:Value}{r:List Bool}(h:BoolsM w v r)(hl:r.length<=1100000): BoolsV w v r:=by
 obtain⟨A,c,u,j,i⟩:=h;exact⟨A,c,u,j,hl,i⟩
theorem Xvl{ar:Int}{sv v:Value}{r:Row}{A:Option Addr}{n c:Nat}(hs:sv=.slice A n c)(h:RowM w v r)(ha:ar<=1000000): Ret Tryz.prog 77 [.agg #[.int .i64 ar,sv],v] w λu w'=>Ext w w'/\∃ e,u=.int .i64 e/\(e=0↔(r.length:Int)=ar/\r.all Xg=true):=by
 subst hs;obtain⟨B,c',rfl,D,U⟩:=id h;refine Jz Tryz.func77 Tryz.ntmps77 rfl kr rfl ?_;refine ρ ?_;refine bx ?_;intro w1 b j Z G;refine ρ ?_;refine ld (G.at (i:=0) rfl) ?_;refine ρ ?_;refine ci (λh=>?_) (λJ=>?_)
 .refine ρ ?_;exact Jq ⟨j,6,rfl,⟨λe=>(by cases e),λe=>absurd e.1 (Kx h)⟩⟩
 have O:=Kz J;refine ρ ?_;refine cl (Jrx ((h.v om).ext j)) ?_;rintro u w2 ⟨rfl,y⟩;refine ρ ?_;refine ci (λh=>?_) (λD=>?_)
 .refine ρ ?_;refine Jq ⟨j.trans y,4,rfl,⟨λe=>(by cases e),λe=>?_⟩⟩;rw[e.2]at h;cases h
 refine ρ ?_;refine Jq ⟨j.trans y,0,rfl,⟨λ_=>⟨O,by simpa using D⟩,λ_=>rfl⟩⟩
theorem Jsd{v:Value}{ls:List Row}{ar:Nat}(h:RowsM w v ls)(hm0:ls.length<=1000000):
  Ret Tryz.prog 40 [.int .i64 (ar:Int),v] w λu w'=>Ext w w'/\∃ rv e,u=.tuple #[rv,.int .i64 e]/\(∃ z B m d,rv=.agg #[.int .i64 z,.slice B m d])/\(ar<=32->(∀ r∈ls,r.length=ar/\r.all Xg=true)->ls.length<=65536->e=0) /\
   (e=0->ar<=32/\(∀ r∈ls,r.length=ar/\r.all Xg=true)/\∃ m,Off (λk=>k<w.heap.size) w' (λu=>RelV u rv ar m)/\m.length<=65536/\(∀ x∈m,x∈ls)/\((ls.length<=12∨Srt [] ls)->Zn [] ls m)):=by
 obtain⟨ps,A,c,rfl,rfl,b6,hR,G⟩:=h;have ag:ps.length<=1100000:=by rw[List.length_map]at hm0;omega
 generalize hn:ps.length=n at *
 have b4:∀ i,(ps.map (·.2)).getD i []=(ps.getD i z0).2:=λi=>Jwd
 have ae:∀ p∈ps,p.1.oneCell'=true:=λp hp=>(G p hp).one;refine Jz Tryz.func40 Tryz.ntmps40 rfl kr rfl ?_;refine ρ ?_;refine alc Yf ?_;intro w1 b aq hb hB;refine ρ ?_;refine cl (Jsf (ar:Int) w1) ?_;rintro v2 w2 ⟨ad,z',e2,rfl,ai,J⟩;refine ρ ?_;refine alc Yf ?_;intro w3 b3 ap ax b2;refine ρ ?_;refine stb b2 ?_ (Vq (z:=z') (A:=none) (n:=0) (c:=0));intro w4 b1 b8 ao;have a7:Ext w1 w4:=ao w1 (ad.trans ap) (nL ad.size ax);have U:=aq.trans a7;have ab:=hB.ext a7;refine ρ ?_;refine ci (λh=>?_) (λh=>?_)
 .have a8:=Kx h;refine ρ ?_;refine bld (Jzm _) ?_;refine ρ ?_;refine stb ab ?_ Vq;intro w5 aa b7 a1;refine ρ ?_;refine Xh aa ⟨a1 w U hb,_,e2,rfl,⟨0,none,0,0,rfl⟩,λh1 _ _=>J.2 om,λe=>absurd e a8⟩
 have hz:=Kz h;subst hz;have ay:ar<=32:=by have:=J.1 rfl;omega
 have ak:=ai rfl;subst ak;clear h ai J;refine ρ ?_;refine Js (fun (k:Nat)=>[(0,.int .i64 (ar:Int)),(1,.slice A n c),(4,.pointer (some ⟨b,0,none⟩)),(6,.pointer (some ⟨b3,0,none⟩)),(20,.int .i64 (n:Int)),(21,.int .i64 (k:Int))])
  (λk w'=>Ext w4 w'/\k<=n/\∀ i,i<k->(ps.getD i z0).2.length=ar/\(ps.getD i z0).2.all Xg=true) (λk=>n-k) 0 sB ⟨Ext.refl _,Nat.zero_le _,λi hi=>om⟩ ?_
 rintro k w5 ⟨a1,hk,hI⟩;have y:=U.trans a1;refine ρ ?_;refine ci (λh=>?_) (λh=>?_)
 .have lk:k<n:=by have:=oT h;omega
  clear h;refine ρ ?_;refine dr [(0,0),(0,1),(0,2),(0,3),(0,4),(1,5),(0,6)] kr ?_;have a6:=a1.drew;have aa:=b1.ext a6;have aj:=hR.ext y.drew;refine ρd ?_;refine Qb (cs:=[.int .i64 (ar:Int),.slice none 0 0]) (λj u hu=>aa.at hu) ?_;refine ρd ?_;refine dix k aj lk ?_;refine ρd ?_;refine dld (Jjj aj hn lk) ?_;refine ρd ?_;have ha:(ar:Int)<=1000000:=om
  refine dcl (Xvl (A:=none) (n:=0) (c:=0) rfl ((G _ (Yz hn lk)).ext y.drew) ha) ?_;rintro u w6 ⟨Z,e,rfl,J⟩;refine⟨Z,?_⟩;refine ρd ?_;refine ρ ?_;have a2:=a6.trans Z;refine ci (λh=>?_) (λh=>?_)
  .have a8:=Kx h;refine ρ ?_;refine bld (Jzm _) ?_;refine ρ ?_;refine stb (ab.ext a2) ?_ Vq;intro w7 a9 hg7 an;refine ρ ?_;refine Xh a9 ⟨an w (U.trans a2) hb,_,e,rfl,⟨0,none,0,0,rfl⟩,λ_ h2 _=>?_,λe=>absurd e a8⟩;grind
  have hz:=Kz h;have b5:=J.1 hz;refine ρ ?_;refine Jp (k+1) sO ⟨a2,om,λi hi=>?_⟩ om;grind
 have e:k=n:=by have:=oF h;omega
 subst e;have G:∀ p∈ps,RowV w p.1 p.2:=λp hp=>by
  obtain⟨j,hj,rfl⟩:=List.getElem_of_mem hp;have:=(hI j om).1;rw[Ql z0 _ hj]at this;exact(G _ hp).v om
 refine ρ ?_;refine cl (Qws (hR.ext y) hn ag ae) ?_;rintro u w6 ⟨Z,D,d,rfl,hd,a4⟩;have O:=y.trans Z;have a3:∀ j,(Value.slice D k d).ownBlock=some j->w5.heap.size<=j/\j<w6.heap.size:=by
  obtain⟨_,_,_,_,hf⟩:=Jv a4.1;grind
 have af:∀ p∈ps,Off (one (Value.slice D k d).ownBlock) w6 (λu=>RowV u p.1 p.2):=λp hp=>Off.old (a:=w) (λu hu=>(G p hp).ext hu) O (λj ej=>nL y.size (a3 j ej).1);refine ρ ?_;refine cl (Jlt (ar:=ar) a4 hn ag hd af) ?_;rintro u w7 ⟨hg7,rv,e,rfl,⟨z,B,m,d',au⟩,ah,av⟩;have ac:Ext w w7:=Ja O hg7 (λj ej=>nL y.size (a3 j ej).1);have a5:=(ab.ext a1).ext Z;have a9:=a5.grown hg7 (a5.ne_own a4.1 rfl);subst au;refine ρ ?_;refine stb a9 ?_ (Vq (z:=z) (A:=B) (n:=m) (c:=d'));intro w8 az aw am;refine ρ ?_;refine Xh az ⟨am w ac hb,_,e,rfl,⟨z,B,m,d',rfl⟩,λ_ _ h3=>ah (by grind),λe0=>⟨ay,λr hr=>?_,?_⟩⟩
 .grind [List.mem_map.1,List.getElem_of_mem,Ql,z0]
 obtain⟨ms,m1,m2,m3,m4⟩:=av e0;refine⟨ms,?_,m2,m3,λhc=>m4 (by grind)⟩;have b9:b<w6.heap.size/\(Value.slice D k d).ownBlock≠some b:=⟨a5.lt,λe=>a5.ne_own a4.1 rfl e.symm⟩;refine(m1.grown aw (λj ej=>by grind)).mono λj _ hj=>⟨nM hj O.size,λe=>?_⟩;have:=(a3 j e).1;have:=y.size;omega
open Go.RowKit Pl Go.Wk
attribute [local irreducible] WN WG WH WM
def IntssV(w:World)(v:Value)(zss:List (List Int)): Prop:=∃ A c cs,v=.slice A zss.length c/\zss.length<=c/\Rd w 1 A zss.length cs/\∀ i,i<zss.length->∃ u,cs[i]?=some u/\IntsM w u (zss.getD i [])
def RowssV(w:World)(v:Value)(rss:List (List Row)): Prop:=∃ A c cs,v=.slice A rss.length c/\rss.length<=c/\Rd w 1 A rss.length cs/\∀ i,i<rss.length->∃ u,cs[i]?=some u/\RowsM w u (rss.getD i [])
theorem IntssV.ext{w w':World}{v:Value}{zss:List (List Int)}(h:IntssV w v zss)(hx:Ext w w'): IntssV w' v zss:=by
 obtain⟨A,c,cs,G,D,B,y⟩:=h;exact⟨A,c,cs,G,D,B.ext hx,λi hi=>by obtain⟨u,e,j⟩:=y i hi;exact⟨u,e,j.ext hx⟩⟩
theorem RowssV.ext{w w':World}{v:Value}{zss:List (List Row)}(h:RowssV w v zss)(hx:Ext w w'): RowssV w' v zss:=by
 obtain⟨A,c,cs,G,D,B,y⟩:=h;exact⟨A,c,cs,G,D,B.ext hx,λi hi=>by obtain⟨u,e,j⟩:=y i hi;exact⟨u,e,j.ext hx⟩⟩
structure Cse where
 n: Int
 f:Int
 ds:List Bool
 pm:List Int
 vs:List (List Int)
 rss:List (List Row)
def CseV(w:World)(cs:List Value)(c:Cse): Prop:=∃ dA dc pA pc vA vc rA rc,cs=[.int .i64 c.n,.int .i64 c.f,.slice dA c.ds.length dc,.slice pA c.pm.length pc,.slice vA c.vs.length vc,.slice rA c.rss.length rc] /\
 BoolsM w (.slice dA c.ds.length dc) c.ds/\IntsM w (.slice pA c.pm.length pc) c.pm/\IntssV w (.slice vA c.vs.length vc) c.vs/\RowssV w (.slice rA c.rss.length rc) c.rss/\(-9223372036854775808<=c.n/\c.n<=9223372036854775807)/\(-9223372036854775808<=c.f/\c.f<=9223372036854775807)
theorem CseV.ext{w w':World}{cs:List Value}{c:Cse}(h:CseV w cs c)(hx:Ext w w'): CseV w' cs c:=by
 obtain⟨dA,dc,D,B,j,i,y,u,h1,Z,U,O,J,G⟩:=h;exact⟨dA,dc,D,B,j,i,y,u,h1,Z.ext hx,U.ext hx,O.ext hx,J.ext hx,G⟩
structure FewP(c:Cse): Prop where
 row:∀ i,i<c.rss.length->(c.rss.getD i []).length<=10
 cnt:(Xk c.rss.length λi=>max 1 (c.rss.getD i []).length)<=5000
 n6:c.n<=6∨32<c.n
 v5:c.vs.length<=5
 r5:c.rss.length<=5
 v8:∀ i,i<c.vs.length->(c.vs.getD i []).length<=8
 d10:c.ds.length<=10
 p10:c.pm.length<=10
structure FewS(c:Cse): Prop where
 row:∀ i,i<c.rss.length->(c.rss.getD i []).length<=10
 cnt:(Xk c.rss.length λi=>max 1 (c.rss.getD i []).length)<=5000
 n6:c.n<=6
 v5:c.vs.length<=5
 r5:c.rss.length<=5
 v8:∀ i,i<c.vs.length->(c.vs.getD i []).length<=8
 d10:c.ds.length<=10
 p10:c.pm.length<=10
theorem FewS.p{c:Cse}(h:FewS c): FewP c:=⟨h.row,h.cnt,.inl h.n6,h.v5,h.r5,h.v8,h.d10,h.p10⟩
theorem Qtz{w:World}{cs:List Value}{c:Cse}(h:CseV w cs c): Ret Tryz.prog 15 [.agg cs.toArray] w λu w'=>Ext w w'/\∃ b:Bool,u=.bool b/\(b=true->FewP c)/\(FewS c->b=true):=by
 obtain⟨dA,dc,pA,pc,vA,vc,rA,rc,rfl,hD,hP,hV,hR,hn,hf⟩:=h;obtain⟨_,_,ag,e1,_,Z,ae⟩:=id hR;injection e1 with e1 e2 e3
 subst e1;subst e3;obtain⟨_,_,af,e1,_,a8,ad⟩:=id hV;injection e1 with e1 e2 e3
 subst e1;subst e3;refine Jz Tryz.func15 Tryz.ntmps15 rfl kr rfl ?_;refine ρ ?_;refine bx ?_;intro w1 b B hb G;refine ρ ?_;refine Qq (fun (i:Nat) (y:Nat)=>[(1,.pointer (some ⟨b,0,none⟩)),(2,.bool false),(3,.int .i64 (y:Int)),(4,.int .i64 (i:Int))])
  (λi y w'=>i<=6/\i<=c.rss.length/\w'=w1/\y=(Xk i λi=>max 1 (c.rss.getD i []).length)/\y<=10^i/\∀ j,j<i->(c.rss.getD j []).length<=10) (λi _=>6-i) 0 1 sB ⟨om,Nat.zero_le _,rfl,rfl,by simp,λj hj=>om⟩ ?_
 rintro i y w2 ⟨h6,hi,rfl,O,a7,a1⟩;refine ρ ?_;refine ld (G.at (i:=5) rfl) ?_;refine ρ ?_;refine Gj (fun (t:Bool)=>[(14,.bool t),(1,.pointer (some ⟨b,0,none⟩)),(2,.bool false),(3,.int .i64 (y:Int)),(4,.int .i64 (i:Int))]) (λt w3=>w3=w2/\(t=true↔i<c.rss.length/\i<6)) ?_ ?_
 .refine ki 11 (λh=>?_) (λh=>?_)
  .have:=oT h;refine ρ ?_;refine Jg (decide ((i:Int)<6)) sB ⟨rfl,?_⟩;rw[decide_eq_true_eq];omega
  have:=oF h;refine ρ ?_;refine Jg false sB ⟨rfl,?_⟩;grind
 rintro t w3 ⟨rfl,ht⟩;refine ρ ?_;refine ci (λh=>?_) (λh=>?_)
 .obtain⟨li,l6⟩:=ht.1 h;clear h;obtain⟨ru,a6,ac⟩:=ae i li;obtain⟨TA,tc,rfl,_⟩:=id (ac.ext B).form;refine ρ ?_;refine ld (G.at (i:=5) rfl) ?_;refine ρ ?_;refine ix i (Z.ext B) li ?_;refine ρ ?_;refine ld ((Z.ext B).cell a6) ?_;refine ρ ?_;refine ci (λh=>?_) (λh=>?_)
  .refine ρ ?_;exact Jq ⟨B,false,rfl,λh=>(by cases h),λD=>by have h1:=D.row i li;grind⟩
  have ah:(c.rss.getD i []).length<=10:=by have:=oF h;omega
  clear h;refine ρ ?_;refine ld (G.at (i:=5) rfl) ?_;refine ρ ?_;refine ix i (Z.ext B) li ?_;refine ρ ?_;refine ld ((Z.ext B).cell a6) ?_;refine ρ ?_;have ai:(if(1:Int)<((c.rss.getD i []).length:Int) then((c.rss.getD i []).length:Int) else 1)=((max 1 (c.rss.getD i []).length:Nat):Int):=by
   split<;>omega
  have a4:y<=100000:=nL a7 (Nat.pow_le_pow_right (by decide) (show i<=5 by omega));have aj:y*max 1 (c.rss.getD i []).length<=y*10:=Nat.mul_le_mul_left _ om;have e:IntKind.i64.wrap ((y:Int)*(if(1:Int)<((c.rss.getD i []).length:Int) then((c.rss.getD i []).length:Int) else 1))=((y*max 1 (c.rss.getD i []).length:Nat):Int):=by grind [Int.natCast_mul,Vn]
  rw[e];refine Ju (i+1) (y*max 1 (c.rss.getD i []).length) sO ⟨om,om,rfl,?_,?_,λj hj=>?_⟩ om;repeat grind [Xk,Nat.pow_succ,Nat.mul_le_mul]
 have am:¬ (i<c.rss.length/\i<6):=by grind
 clear h ht;refine ρ ?_;refine ci (λh=>?_) (λh=>?_)
 .refine ρ ?_;exact Jq ⟨B,false,rfl,λh=>(by cases h),λD=>by
   have h1:=D.cnt;have h2:=D.r5;grind⟩
 have a4:y<=5000:=by grind
 clear h;refine ρ ?_;refine Js (fun (k:Nat)=>[(1,.pointer (some ⟨b,0,none⟩)),(2,.bool false),(5,.int .i64 (k:Int))])
  (λk w'=>k<=6/\k<=c.vs.length/\w'=w3/\∀ j,j<k->(c.vs.getD j []).length<=8) (λk=>6-k) 0 sB ⟨om,Nat.zero_le _,rfl,λj hj=>absurd hj (Nat.not_lt_zero j)⟩ ?_
 rintro k w4 ⟨k6,hk,rfl,a3⟩;refine ρ ?_;refine ld (G.at (i:=4) rfl) ?_;refine ρ ?_;refine Gj (fun (t:Bool)=>[(43,.bool t),(1,.pointer (some ⟨b,0,none⟩)),(2,.bool false),(5,.int .i64 (k:Int))]) (λt w5=>w5=w4/\(t=true↔k<c.vs.length/\k<6)) ?_ ?_
 .refine ki 40 (λh=>?_) (λh=>?_)
  .have:=oT h;refine ρ ?_;refine Jg (decide ((k:Int)<6)) sB ⟨rfl,?_⟩;rw[decide_eq_true_eq];omega
  have:=oF h;refine ρ ?_;refine Jg false sB ⟨rfl,?_⟩;grind
 rintro t w5 ⟨rfl,ht⟩;refine ρ ?_;refine ci (λh=>?_) (λh=>?_)
 .obtain⟨lk,l6⟩:=ht.1 h;clear h;obtain⟨vu,a9,aa⟩:=ad k lk;obtain⟨QA,qc,rfl,_⟩:=id aa;refine ρ ?_;refine ld (G.at (i:=4) rfl) ?_;refine ρ ?_;refine ix k (a8.ext B) lk ?_;refine ρ ?_;refine ld ((a8.ext B).cell a9) ?_;refine ρ ?_;refine ci (λh=>?_) (λh=>?_)
  .refine ρ ?_;exact Jq ⟨B,false,rfl,λh=>(by cases h),λD=>by have h1:=D.v8 k lk;grind⟩
  have l8:(c.vs.getD k []).length<=8:=by have:=oF h;omega
  have ab:∀ j,j<k+1->(c.vs.getD j []).length<=8:=λj hj=>by
   rcases Nat.lt_or_ge j k with h'|h'
   .exact a3 j h'
   obtain rfl:j=k:=om
   exact l8
  refine ρ ?_;exact Jp (k+1) sO ⟨om,om,rfl,ab⟩ om
 have ak:¬ (k<c.vs.length/\k<6):=by grind
 clear h ht;refine ρ ?_;refine ld (G.at (i:=0) rfl) ?_;refine ρ ?_;refine ki 56 (λh=>?_) (λh=>?_)
 .have hN:c.n<=6:=oT h;clear h;refine ρ ?_;refine ld (G.at (i:=4) rfl) ?_;refine ρ ?_;refine ki 67 (λh4=>?_) (λh4=>?_)
  .refine ρ ?_;refine ld (G.at (i:=5) rfl) ?_;refine ρ ?_;refine ki 73 (λh5=>?_) (λh5=>?_)
   .have r5:c.rss.length<=5:=by have:=oT h5;omega
    have v5:c.vs.length<=5:=by grind
    have ir:i=c.rss.length:=om
    have U:=λa5 a2=>FewP.mk (c:=c) (λj hj=>a1 j om) (by rw[<-ir,<-O];exact a4) (.inl hN) v5 r5 (λj hj=>a3 j om) a5 a2;refine ρ ?_;refine ld (G.at (i:=2) rfl) ?_;refine ρ ?_;refine ki 79 (λh6=>?_) (λh6=>?_)
    .refine ρ ?_;refine ld (G.at (i:=3) rfl) ?_;refine ρ ?_;exact Jq ⟨B,decide ((c.pm.length:Int)<=10),rfl,λe=>U (by have:=oT h6;omega) (by have:=oT e;omega),λD=>by have:=D.p10;grind⟩
    refine ρ ?_;exact Jq ⟨B,false,rfl,λh=>(by cases h),λD=>by have h1:=D.d10;grind⟩
   refine ρ ?_;exact Jq ⟨B,false,rfl,λh=>(by cases h),λD=>by have h1:=D.r5;grind⟩
  refine ρ ?_;exact Jq ⟨B,false,rfl,λh=>(by cases h),λD=>by have h1:=D.v5;grind⟩
 have J:¬ c.n<=6:=oF h;clear h;refine ρ ?_;refine ld (G.at (i:=0) rfl) ?_;refine ρ ?_;refine ki 61 (λh=>?_) (λh=>?_)
 .have hN:32<c.n:=oT h;clear h;refine ρ ?_;refine ld (G.at (i:=4) rfl) ?_;refine ρ ?_;refine ki 67 (λh4=>?_) (λh4=>?_)
  .refine ρ ?_;refine ld (G.at (i:=5) rfl) ?_;refine ρ ?_;refine ki 73 (λh5=>?_) (λh5=>?_)
   .have r5:c.rss.length<=5:=by have:=oT h5;omega
    have v5:c.vs.length<=5:=by grind
    have ir:i=c.rss.length:=om
    have U:=λa5 a2=>FewP.mk (c:=c) (λj hj=>a1 j om) (by rw[<-ir,<-O];exact a4) (.inr hN) v5 r5 (λj hj=>a3 j om) a5 a2;refine ρ ?_;refine ld (G.at (i:=2) rfl) ?_;refine ρ ?_;refine ki 79 (λh6=>?_) (λh6=>?_)
    .refine ρ ?_;refine ld (G.at (i:=3) rfl) ?_;refine ρ ?_;exact Jq ⟨B,decide ((c.pm.length:Int)<=10),rfl,λe=>U (by have:=oT h6;omega) (by have:=oT e;omega),λD=>absurd D.n6 J⟩
    refine ρ ?_;exact Jq ⟨B,false,rfl,λh=>(by cases h),λD=>absurd D.n6 J⟩
   refine ρ ?_;exact Jq ⟨B,false,rfl,λh=>(by cases h),λD=>absurd D.n6 J⟩
  refine ρ ?_;exact Jq ⟨B,false,rfl,λh=>(by cases h),λD=>absurd D.n6 J⟩
 refine ρ ?_;exact Jq ⟨B,false,rfl,λh=>(by cases h),λD=>absurd D.n6 J⟩
end Go.Proofs.YtebiphhfkdbpfaaGreatDoor
namespace Go.Wk
open Go.RowKit
variable {d n t ty:Nat}
theorem dalc'{P:Program}{al:AL}{w:World}{Q:Exit->Act->World->Prop}{ops:Array Oper}{drest:List (Nat×Oper)}{pos:String}{aft:Array Edge}{z:Value}{cs:List Value}(hz:Qe P t=some z)(kk:∀ w1 b,Ext w w1->w.heap.size<=b->Blk w1 b t cs->WD P n ops Q drest ((d,.pointer (some ⟨b,0,none⟩))::al) w1)(hv:z.cells=cs.toArray:=by rfl)(hd:Nat.blt d n=true:=by rfl):
  WD P n ops Q ((1,⟨some d,.alloc t,ty,pos,aft,none⟩)::drest) al w:=by grind [Jwr,alc,Je,Jwq]
end Go.Wk
namespace Go.Wk
open Go.RowKit
variable {b bytes d n t ty:Nat}
section
variable {α:Type} {E:TypeId} {sz base:Nat} {Φ:World->List Value->α->Prop} {N0:Nat->Prop} {w w':World} {v:Value} {ls:List α}
def OwnM(E:TypeId)(sz:Nat)(Φ:World->List Value->α->Prop)(N0:Nat->Prop)(w:World)(base:Nat)(v:Value)(ls:List α): Prop :=
 ∃ ps:List (List Value×α),ls=ps.map (·.2)/\w.ownsRow base E sz v ps.length (Jm ps)/\∀ p∈ps,p.1.length=sz/\Off (λk=>N0 k∨v.ownBlock=some k) w (λu=>Φ u p.1 p.2)
theorem OwnM.nil(w:World)(base:Nat): OwnM E sz Φ N0 w base (.slice none 0 0) []:=⟨[],rfl,Xr _ _ _ _,λp i=>by cases i⟩
theorem OwnM.gr(h:OwnM E sz Φ N0 w base v ls)(hg:GrN N0 w w')(hN:∀ g,v.ownBlock=some g->¬ N0 g): OwnM E sz Φ N0 w' base v ls:=by
 obtain⟨ps,B,y,j⟩:=h;exact⟨ps,B,Qj y hg hN,λp i=>⟨(j p i).1,(j p i).2.gr (hg.mono λk _ u=>.inl u)⟩⟩
theorem OwnM.ext(h:OwnM E sz Φ N0 w base v ls)(hx:Ext w w'): OwnM E sz Φ N0 w' base v ls:=by
 obtain⟨ps,y,u,j⟩:=h;exact⟨ps,y,Jh u hx,λp i=>⟨(j p i).1,(j p i).2.ext hx⟩⟩
theorem OwnM.form(h:OwnM E sz Φ N0 w base v ls): ∃ A c,v=.slice A ls.length c/\ls.length<=c/\∀ g,v.ownBlock=some g->base<=g/\g<w.heap.size:=by
 obtain⟨ps,rfl,j,i⟩:=h;grind [Jv]
theorem OwnM.gv(h:OwnM E sz Φ N0 w base v ls)(hm:ls.length<=1100000): GV sz Φ w v ls:=by
 obtain⟨ps,rfl,u,j⟩:=h;obtain⟨A,c,rfl,y,B⟩:=Jv u;exact⟨ps,A,c,rfl,rfl,y,by simpa using hm,Rd.own u,λp i=>⟨(j p i).1,(j p i).2.here⟩⟩
theorem apM{P:Program}{al:AL}{Q:Exit->Act->World->Prop}{ops:Array Oper}{rest:List Oper}{pos:String}{aft:Array Edge}{z:Value}(hE:ElT P t E sz bytes z){x y:Operand}{cs:List Value}{a:α}(ho:OwnM E sz Φ N0 w base v ls)(hb:Blk w b E cs)(hl:cs.length=sz)(h1:∀ u∈cs,u.oneCell'=true)(hΦ:Off (λk=>N0 k∨v.ownBlock=some k) w (λu=>Φ u cs a))(hm:ls.length<=1100000)(hby:bytes<=128)(hbase:base<=w.heap.size)(kk:∀ v' w',OwnM E sz Φ N0 w' base v' (ls++[a])->w.grownBy w' v.ownBlock->(∀ g,v'.ownBlock=some g->v.ownBlock=some g∨w.heap.size<=g)->WL P n ops Q rest ((d,v')::al) w')(hx:ev al x=some v:=by rfl)(hy:ev al y=some (.slice (some ⟨b,0,none⟩) 1 1):=by rfl)(hd:Nat.blt d n=true:=by rfl):
  WL P n ops Q (⟨some d,.call { callee:=.builtin .append,args:=#[x,y],argTypes:=#[t,t] },ty,pos,aft,none⟩::rest) al w:=by
 obtain⟨ps,e,hr,U⟩:=ho;have Z:ps.length<=1100000:=by rw[e,List.length_map]at hm;exact hm
 have a1:(ps.length+1)*bytes<=1100001*128:=Nat.mul_le_mul om hby;refine apb hE hr (hb.rd (n:=1) om) h1 (by unfold maxLen;omega) om hbase ?_ hx hy hd;intro v' w' O G D;have j:∀ {Ψ:World->Prop},Off (λk=>N0 k∨v.ownBlock=some k) w Ψ->Off (λk=>N0 k∨v'.ownBlock=some k) w' Ψ:=fun {Ψ} h W hW=>by
  refine h W ?_;have h1:GrN (λk=>(N0 k∨v.ownBlock=some k)∨w.heap.size<=k) w W:=(GrN.by G λk B=>.inl (.inr B)).trans (hW.mono λk _ B=>by
   rcases B with B|B
   .exact .inl (.inl B)
   rcases D k B with i|i
   .exact .inl (.inr i)
   exact .inr i)
  exact h1.mono λk B h=>h.elim id λi=>by omega
 refine kk v' w' ⟨ps++[(cs,a)],by rw[e];simp,?_,λp J=>?_⟩ G D
 .have e2:Jm (ps++[(cs,a)])=Jm ps++cs:=by simp[Jm]
  rw[List.length_append,e2];exact O
 rcases List.mem_append.1 J with i|i
 .exact⟨(U p i).1,j (U p i).2⟩
 rw[List.mem_singleton.1 i];exact⟨hl,j hΦ⟩
end
end Go.Wk
namespace Go.Proofs.YtebiphhfkdbpfaaGreatDoor
open Go.RowKit Pl Go.Wk
attribute [local irreducible] WC WL QX WD WDB WP WN WG WH WM
theorem Jqk: Qe Tryz.prog 35=some (.agg #[.int .i64 0,.int .i64 0,.slice none 0 0,.slice none 0 0,.slice none 0 0]):=kr
theorem Xkt(n f:Int)(A B:Option Addr)(a a' b b':Nat)(w:World): (Instr.build 35 #[(0,.int .i64 n),(1,.int .i64 f),(2,.slice A a a'),(3,.slice B b b')]).run Tryz.prog w=.ok (.agg #[.int .i64 n,.int .i64 f,.slice A a a',.slice B b b',.slice none 0 0]) w:=kr
structure MkA(a:Atm)(zs:List Int)(rows:List Row): Prop where
 vars:a.vars=zs
 ar:a.ar=zs.length
 l32:zs.length<=32
 ok:∀ r∈rows,r.length=zs.length/\r.all Xg=true
 len:a.rows.length<=65536
 sub:∀ x∈a.rows,x∈rows
 set:rows.length<=12->Zn [] rows a.rows
structure MkS(c:Cse): Prop where
 len:c.vs.length=c.rss.length
 l32:∀ i,i<c.vs.length->(c.vs.getD i []).length<=32
 ok:∀ i,i<c.vs.length->∀ r∈c.rss.getD i [],r.length=(c.vs.getD i []).length/\r.all Xg=true
 row:∀ i,i<c.vs.length->(c.rss.getD i []).length<=65536
theorem Qrb{w0 w:World}{cs:List Value}{c:Cse}(h:CseV w0 cs c)(hF:FewP c)(h00:Ext w0 w): Ret Tryz.prog 16 [.agg cs.toArray] w λu w'=>Ext w w'/\∃(dA pA aA:Option Addr) (dc pc ac an:Nat) (ok:Bool),u=.tuple #[.agg #[.int .i64 c.n,.int .i64 c.f,.slice dA c.ds.length dc,.slice pA c.pm.length pc,.slice aA an ac],.bool ok] /\
  BoolsV w0 (.slice dA c.ds.length dc) c.ds/\IntsV w0 (.slice pA c.pm.length pc) c.pm/\(ok=true->c.vs.length=c.rss.length/\∃ ats:List Atm,ats.length=c.vs.length/\Off (λk=>w0.heap.size<=k/\k<w.heap.size) w' (λu=>GV 3 AtG u (.slice aA an ac) ats)/\∀ i,i<c.vs.length->MkA (ats.getD i a0) (c.vs.getD i []) (c.rss.getD i []))/\(MkS c->ok=true):=by
 obtain⟨dA,dc,pA,pc,vA,vc,rA,rc,rfl,hD,hP,d2,hR,hn,hf⟩:=h;have df:c.vs.length<=5:=hF.v5;have dg:c.rss.length<=5:=hF.r5;replace hD:=hD.v (nL hF.d10 (by decide))
 replace hP:=hP.v (nL hF.p10 (by decide))
 have hV:=d2;obtain⟨_,_,cr,e1,_,ce,cc⟩:=id hR;injection e1 with e1 e2 e3
 subst e1;subst e3;obtain⟨_,_,da,e1,_,cb,d1⟩:=id hV;injection e1 with e1 e2 e3
 subst e1;subst e3;have d4:=ce.ext h00;have bm:=cb.ext h00;have d3:∀ i,i<c.rss.length->∃ u,cr[i]?=some u/\RowsM w u (c.rss.getD i []):=λi hi=>by obtain⟨u,e,hu⟩:=cc i hi;exact⟨u,e,hu.ext h00⟩
 refine Jz Tryz.func16 Tryz.ntmps16 rfl kr rfl ?_;refine ρ ?_;refine bx ?_;intro w1 b aa hb hB;refine ρ ?_;refine alc Jqk ?_;intro w2 b2 aw bl cp;have ab:=hB.ext aw;refine ρ ?_;refine ld (ab.at (i:=0) rfl) ?_;refine ρ ?_;refine ld (ab.at (i:=1) rfl) ?_;refine ρ ?_;refine ld (ab.at (i:=2) rfl) ?_;refine ρ ?_;refine ld (ab.at (i:=3) rfl) ?_;refine ρ ?_;refine bld (Xkt _ _ _ _ _ _ _ _ _) ?_;refine ρ ?_;refine alc Jqk ?_;intro w3 J cx c4 d8;refine ρ ?_;refine stW d8 ?_;intro w4 a8 dq cw;have ae:Ext w2 w4:=cw w2 cx c4;have a2:=(aa.trans aw).trans ae;have c5:¬ b=J:=λe=>by have:=ab.lt;omega
 have b3:¬ b2=J:=λe=>by have:=cp.lt;omega
 have bb:=ab.ext ae;have ap:=cp.ext ae;refine ρ ?_;refine Qq (fun (i:Nat) (av:Value)=>[(1,.pointer (some ⟨b,0,none⟩)),(2,.pointer (some ⟨b2,0,none⟩)),(3,.bool false),(4,.pointer (some ⟨J,0,none⟩)),(5,.int .i64 (i:Int))])
  (λi av w'=>i<=c.vs.length/\i<=c.rss.length/\GrN (λk=>k=J) w4 w'/\Blk w' J 35 [.int .i64 c.n,.int .i64 c.f,.slice dA c.ds.length dc,.slice pA c.pm.length pc,av]/\∃ ats:List Atm,ats.length=i/\OwnM 82 3 AtG (λk=>(k=b2∨k=J)∨(w0.heap.size<=k/\k<w.heap.size)) w' w4.heap.size av ats/\∀ j,j<i->MkA (ats.getD j a0) (c.vs.getD j []) (c.rss.getD j [])) (λi _=>c.vs.length-i) 0 (.slice none 0 0) sB
  ⟨Nat.zero_le _,Nat.zero_le _,GrN.refl _ _,a8,[],rfl,OwnM.nil _ _,λj hj=>om⟩ ?_
 rintro i av w5 ⟨dl,dm,ah,am,ats,c7,aj,hmk⟩;have a1:=Jr bb ah c5;have ao:=Jr ap ah b3;have au:Ext w w5:=ah.old a2 λk y=>by rw[y];have:=(aa.trans aw).size;omega
 refine ρ ?_;refine ld (a1.at (i:=4) rfl) ?_;refine ρ ?_;refine Gj (fun (t:Bool)=>[(28,.bool t),(1,.pointer (some ⟨b,0,none⟩)),(2,.pointer (some ⟨b2,0,none⟩)),(3,.bool false),(4,.pointer (some ⟨J,0,none⟩)),(5,.int .i64 (i:Int))]) (λt w6=>w6=w5/\(t=true↔i<c.vs.length/\i<c.rss.length)) ?_ ?_
 .refine ki 22 (λh=>?_) (λh=>?_)
  .have:=oT h;refine ρ ?_;refine ld (a1.at (i:=5) rfl) ?_;refine ρ ?_;refine Jg (decide ((i:Int)<(c.rss.length:Int))) sB ⟨rfl,?_⟩;rw[decide_eq_true_eq];omega
  have:=oF h;refine ρ ?_;refine Jg false sB ⟨rfl,?_⟩;constructor
  .intro h;cases h
  omega
 rintro t w6 ⟨rfl,ht⟩;refine ρ ?_;refine ci (λh=>?_) (λh=>?_)
 .obtain⟨lv,lr⟩:=ht.1 h;clear h;obtain⟨vu,bq,ax⟩:=d1 i lv;obtain⟨ru,cy,bd⟩:=d3 i lr;obtain⟨QA,qc,rfl,di,dj⟩:=id ax;have dh:=hF.v8 i lv;replace ax:=ax.v om
  have G:Ext w6 w6.drew:=(Ext.refl w6).drew;have O:=au.trans G;have ck:=a1.ext G;have ca:=bm.ext O;have cd:=d4.ext O;obtain⟨TA,tc,rfl,_⟩:=id (bd.ext O).form;have az:(c.rss.getD i []).length<=1000000:=nL (hF.row i lr) (by decide);refine ρ ?_;refine drH (λi=>Nat.ble 16 i) ?_;refine Ux (fuel':=7) 8 [(0,0),(0,1),(0,2),(0,3),(0,4),(0,5),(0,6),(0,7),(0,8),(0,9),(0,10)] (lst 18 11) kr kr rfl ?_;refine ρd ?_;refine dld (ck.at (i:=4) rfl) ?_;refine ρd ?_;refine dix i ca lv ?_;refine ρd ?_;refine dld (ca.cell bq) ?_;refine ρd ?_;refine dld (ck.at (i:=5) rfl) ?_;refine ρd ?_;refine dix i cd lr ?_;refine ρd ?_;refine dld (cd.cell cy) ?_;refine ρd ?_;refine Yq ?_;refine hcut 2 (lst 18 16) (fun (q:Value×Int×Nat)=>[(44,q.1),(45,.int .i64 q.2.1),(6,.pointer (some ⟨q.2.2,0,none⟩)),(1,.pointer (some ⟨b,0,none⟩)),(2,.pointer (some ⟨b2,0,none⟩)),(3,.bool false),(4,.pointer (some ⟨J,0,none⟩)),(5,.int .i64 (i:Int))])
   (λq W=>Ext w6.drew W/\Blk W q.2.2 80 [.int .i64 0,.slice none 0 0]/\w6.drew.heap.size<=q.2.2/\(∃ z B m d,q.1=.agg #[.int .i64 z,.slice B m d])/\((c.vs.getD i []).length<=32->(∀ r∈c.rss.getD i [],r.length=(c.vs.getD i []).length/\r.all Xg=true)->(c.rss.getD i []).length<=65536->q.2.1=0) /\
    (q.2.1=0->(c.vs.getD i []).length<=32/\(∀ r∈c.rss.getD i [],r.length=(c.vs.getD i []).length/\r.all Xg=true)/\∃ m,Off (λk=>k<w6.drew.heap.size∨k=q.2.2) W (λu=>RelV u q.1 (c.vs.getD i []).length m)/\m.length<=65536/\(∀ x∈m,x∈c.rss.getD i [])/\(((c.rss.getD i []).length<=12∨Srt [] (c.rss.getD i []))->Zn [] (c.rss.getD i []) m))) ?_ ?_
  .rintro⟨rv,e,b6⟩ W ⟨cu,cn,c2,⟨z,B,mm,dd,cq⟩,U,Z⟩;simp only at cn c2 U Z cq;subst cq;refine Ux (fuel':=0) 8 [(2,16),(2,17)] (lst 18 18) kr kr rfl ?_;refine Jd ?_;refine stb (cs':=[.int .i64 z,.slice B mm dd]) cn ?_ Vq;intro W2 cm bw bp;refine Je (Qf ?_);refine Jd ?_;refine ρ ?_;refine Qf ?_;refine Jzh (Yq ?_);refine Vz kr ?_;have D:Ext w6 W2:=bp w6 (G.trans cu) (nL G.size c2);have bi:GrN (λk=>k=b6) W W2:=GrN.by bw λk y=>by injection y with y;exact y.symm
   have ba:=am.ext D;refine ρ ?_;refine ci (λh=>?_) (λh=>?_)
   .refine ρ ?_;refine ldW ba ?_;obtain⟨AA,ac,aq,_,_⟩:=aj.form;subst aq;refine ρ ?_;refine stW (ao.ext D) ?_;intro W3 bn c0 ad;have bc:Ext w W3:=ad w (au.trans D) (nL aa.size bl);refine ρ ?_;exact Xh bn ⟨bc,dA,pA,AA,dc,pc,ac,ats.length,false,rfl,hD,hP,λh=>(by cases h),λhS=>absurd (U (hS.l32 i lv) (hS.ok i lv) (hS.row i lv)) (Kx h)⟩
   have he:e=0:=Kz h;clear h;obtain⟨br,bs,m,bt,d0,bg,bh⟩:=Z he;have bf:=bt.gr (bi.mono λk _ y=>(.inr y:k<w6.drew.heap.size∨k=b6));obtain⟨AA,ac,aq,c8,a4⟩:=aj.form;subst aq;have ag:∀ g,(Value.slice AA ats.length ac).ownBlock=some g->w4.heap.size<=g:=λg e=>(a4 g e).1;have a3:Ext W2 W2.drew:=(Ext.refl W2).drew;have b9:=ba.ext a3;have ch:=(aj.ext D).ext a3;have af:Ext w W2.drew:=(au.trans D).trans a3;have d6:=(a1.ext D).ext a3;have co:=cm.ext a3;obtain⟨de,_,cz,_⟩:=id ch;have n4:¬ (Value.slice AA ats.length ac).ownBlock=some J:=λe=>by have:=ag J e;have:=a8.lt;omega
   have n1:¬ (Value.slice AA ats.length ac).ownBlock=some b:=λe=>by have:=ag b e;have:=bb.lt;omega
   have n6:¬ (Value.slice AA ats.length ac).ownBlock=some b6:=λe=>by have:=(a4 b6 e).2;have:=G.size;omega
   have d5:∀ {W'},GrN (λk=>(Value.slice AA ats.length ac).ownBlock=some k) W2.drew W'->Ext w W':=λhg=>hg.old af λk y=>by have:=ag k y;have:=a2.size;omega
   refine ρ ?_;refine drN (λk=>(Value.slice AA ats.length ac).ownBlock=some k) 10 [(0,0),(0,1),(0,2),(0,3),(0,4),(0,5),(0,6),(0,7),(0,8),(1,9),(1,10),(0,11),(2,12)] kr ?_;refine ρn ?_;refine nld (Qy (b9.at (i:=4) rfl) n4) ?_;refine ρn ?_;refine nld (Qy (d6.at (i:=4) rfl) n1) ?_;refine ρn ?_;refine nix i (bm.ext af) lv ?_;refine ρn ?_;refine nld (λw' hg=>(bm.ext (d5 hg)).cell bq) ?_;refine ρn ?_;refine Vu (cs:=[.int .i64 z,.slice B mm dd]) (λw' hg j u hu=>(Jr co hg n6).at hu) ?_;refine ρn ?_;refine nbld (λw=>Qvh _ _ _ _ _ _ _ w) ?_;refine ρn ?_;refine nop ?_;refine bsl (λw=>Jlx _ _ _ QA B _ qc _ dd _ rfl rfl rfl w) ?_;intro W3 b8 a5 dw d7;refine ρ ?_;refine Qg (GrN.ext a5) ?_;refine nop ?_;have be:=(bf.ext a3).ext a5;have hΦ:Off (λk=>((k=b2∨k=J)∨(w0.heap.size<=k/\k<w.heap.size))∨(Value.slice AA ats.length ac).ownBlock=some k) W3 (λu=>AtG u [.slice QA (c.vs.getD i []).length qc,.int .i64 z,.slice B mm dd] ⟨c.vs.getD i [],(c.vs.getD i []).length,m⟩):=by
    intro W' c1;have h1:IntsV W' (.slice QA (c.vs.getD i []).length qc) (c.vs.getD i []):=ax.ext (c1.old (h00.trans (af.trans a5)) λk y=>by
     rcases y with((y|y)|y)|y
     .rw[y];exact nL (h00.trans aa).size bl
     .rw[y];exact nL (h00.trans (aa.trans aw)).size c4
     .exact y.1
     have:=ag k y;have:=(h00.trans a2).size;omega)
    obtain⟨db,er,h2⟩:=be W' (c1.mono λk _ y=>.inl (by
     rcases y with((y|y)|y)|y
     .have:=ao.lt;have:=G.size;omega
     .have:=am.lt;have:=G.size;omega
     .have:=O.size;omega
     have:=(a4 k y).2;have:=G.size;omega))
    have bo:=congrArg (λv:Value=>match v with | .agg xs=>xs.toList|_=>[]) er;simp only[List.cons.injEq,Value.int.injEq,true_and,and_true]at bo;refine⟨(.slice QA (c.vs.getD i []).length qc,.int .i64 z,.slice B mm dd),rfl,h1,?_,?_⟩
    .simp only;rw[bo.1]
    simp only;rw[bo.2];exact h2
   refine apM EA (Φ:=AtG) (ch.ext a5) d7 rfl (Jjq rfl) hΦ om om (nL ah.size (nL (D.trans a3).size a5.size)) ?_;intro a7 W4 cj bz dk;refine ρ ?_;refine Qg (GrN.by bz λk y=>y) ?_;have b1:GrN (λk=>(Value.slice AA ats.length ac).ownBlock=some k) W3 W4:=GrN.by bz λk y=>y
   have ak:=Jr (b9.ext a5) b1 n4;obtain⟨A9,c9,d9,du,c6⟩:=cj.form;refine ρn ?_;refine Xu ?_;refine sto (ak.at (i:=4) rfl) (ak.frozen 4) ?_ (hv:=by rw[d9];rfl);have ai:GrN (λk=>k=J) W4 (W4.setCell ((⟨J,0,none⟩:Addr).add 4) a7):=GrN.set _ rfl;have b7:Blk (W4.setCell ((⟨J,0,none⟩:Addr).add 4) a7) J 35 [.int .i64 c.n,.int .i64 c.f,.slice dA c.ds.length dc,.slice pA c.pm.length pc,a7]:=ak.set 4 _;have b5:OwnM 82 3 AtG (λk=>(k=b2∨k=J)∨(w0.heap.size<=k/\k<w.heap.size)) (W4.setCell ((⟨J,0,none⟩:Addr).add 4) a7) w4.heap.size a7 (ats++[⟨c.vs.getD i [],(c.vs.getD i []).length,m⟩]):=cj.gr (ai.mono λk _ h=>.inl (.inr h)) λg eg e=>by have:=(c6 g eg).1;have:=a8.lt;have:=ap.lt;have:=a2.size;rcases e with(e|e)|e<;>omega
   generalize (W4.setCell ((⟨J,0,none⟩:Addr).add 4) a7)=W5 at ai b7 b5
   have hgt:GrN (λk=>k=J) w4 W5:=by
    have h1:GrN (λk=>k=J∨w4.heap.size<=k) w4 W5:=(((ah.mono λk _ h=>(.inl h:k=J∨w4.heap.size<=k)).trans (GrN.ext ((D.trans a3).trans a5))).trans (b1.mono λk _ h=>.inr (ag k h))).trans (ai.mono λk _ h=>.inl h);exact h1.mono λk y h=>h.elim id λh'=>by omega
   refine Je (Uh ?_);refine ρn ?_;refine ρ ?_;refine Ju (i+1) a7 sO ⟨om,om,hgt,b7,_,by rw[List.length_append,c7];rfl,b5,λj hj=>?_⟩ om;by_cases ej:j=i
   .subst ej;have:(ats++[(⟨c.vs.getD j [],(c.vs.getD j []).length,m⟩:Atm)]).getD j a0=⟨c.vs.getD j [],(c.vs.getD j []).length,m⟩:=by simp[List.getD,<-c7]
    rw[this];exact⟨rfl,rfl,br,bs,d0,bg,λh=>bh (.inl h)⟩
   have:(ats++[(⟨c.vs.getD i [],(c.vs.getD i []).length,m⟩:Atm)]).getD j a0=ats.getD j a0:=by simp[List.getD,List.getElem?_append_left (show j<ats.length by omega)]
   rw[this];exact hmk j om
  intro rest;refine htwo 11 15 kr rfl rfl rfl ?_ ?_
  .refine ρ ?_;refine cl (Jsd (ar:=(c.vs.getD i []).length) (bd.ext O) az) ?_;rintro u W ⟨hy,rv,e,rfl,a6,U,Z⟩;refine Je (Qqt hy ?_);refine Ux (fuel':=4) 8 [(0,12),(0,13)] (lst 18 14) kr kr rfl ?_;refine ρd ?_;refine Yq ?_;refine hpur (fuel':=3) 14 kr kr rfl rfl ?_;refine ρp ?_;refine ρd ?_;refine Yq ?_;refine Ux (fuel':=2) 8 [(1,15)] (lst 18 16) kr kr rfl ?_;refine dalc' (cs:=[.int .i64 0,.slice none 0 0]) Yf ?_;intro W2 b6 a9 bj ay;refine Jzh (Yq ?_);refine rest (rv,e,b6) _ _ ⟨hy.trans a9,ay,Nat.le_trans hy.size bj,a6,U,λhe=>?_⟩ sB;obtain⟨q1,q2,m,q3,q4,q5,q6⟩:=Z he;exact⟨q1,q2,m,(q3.mono λk y h=>h.elim id fun (h:k=b6)=>om).ext a9,q4,q5,q6⟩
  refine ρ ?_;refine alc Yf ?_;intro W b6 hy bj ay;refine Je (Qqt hy ?_);refine Ux (fuel':=3) 8 [(1,11),(0,12),(0,13)] ((lst 18 14).setIfInBounds 15 true) kr kr rfl ?_;refine ρd ?_;refine dcl (Jsd (ar:=(c.vs.getD i []).length) (bd.ext (O.trans hy)) az) ?_;rintro u W2 ⟨a9,rv,e,rfl,a6,U,Z⟩;refine⟨a9,?_⟩;refine ρd ?_;refine Yq ?_;refine hpur (fuel':=2) 14 kr kr rfl rfl ?_;refine ρp ?_;refine ρd ?_;refine Yq ?_;refine hlist (listed':=lst 18 16) kr ?_;refine rest (rv,e,b6) _ _ ⟨hy.trans a9,ay.ext a9,bj,a6,U,λhe=>?_⟩ sB;obtain⟨q1,q2,m,q3,q4,q5,q6⟩:=Z he;refine⟨q1,q2,m,q3.mono λk y h=>?_,q4,q5,q6⟩;have:=ay.lt;have:=hy.size;rcases h with h|(h:k=b6)<;>omega
 have dt:¬ (i<c.vs.length/\i<c.rss.length):=λh'=>by have:=ht.2 h';rw[h]at this;cases this
 clear h ht;obtain⟨AA,ac,aq,c8,a4⟩:=aj.form;subst aq;have G:Ext w6 w6.drew:=(Ext.refl w6).drew;refine ρ ?_;have n2:¬ b=b2:=λe=>by have:=hB.lt;omega
 refine drN (λk=>k=b2) 10 [(0,0),(0,1),(0,2),(0,3),(0,4),(0,5),(0,6),(0,7),(1,8),(0,9)] kr ?_;refine ρn ?_;refine Vu (cs:=[.int .i64 c.n,.int .i64 c.f,.slice dA c.ds.length dc,.slice pA c.pm.length pc,.slice AA ats.length ac]) (λw' hg j u hu=>(Jr (am.ext G) hg (λe=>b3 e.symm)).at hu) ?_;refine ρn ?_;refine nld (Qy ((a1.ext G).at (i:=4) rfl) n2) ?_;refine ρn ?_;refine nld (Qy ((a1.ext G).at (i:=5) rfl) n2) ?_;refine ρn ?_;refine nop ?_;refine stW (ao.ext G) ?_;intro W3 bn c0 ad;have bc:Ext w W3:=ad w (au.trans G) (nL aa.size bl);have bu:GrN (λk=>k=b2) w6.drew W3:=GrN.by c0 λk y=>by injection y with y;exact y.symm
 refine Je (Qg bu ?_);refine ρn ?_;refine ρ ?_;refine Xh bn ⟨bc,dA,pA,AA,dc,pc,ac,ats.length,((c.vs.length:Int) == (c.rss.length:Int)),rfl,hD,hP,λh=>?_,λhS=>by rw[hS.len];exact beq_self_eq_true _⟩;have he:c.vs.length=c.rss.length:=by have:=Ug h;omega
 have dn:i=c.vs.length:=om
 refine⟨he,ats,om,?_,λj hj=>hmk j om⟩;have cg:∀ g,(Value.slice AA ats.length ac).ownBlock=some g->¬ ((g=b2∨g=J)∨(w0.heap.size<=g/\g<w.heap.size)):=λg eg e=>by have:=(a4 g eg).1;have:=a8.lt;have:=ap.lt;have:=a2.size;rcases e with(e|e)|e<;>omega
 intro W hW;exact(((aj.ext G).gr (bu.mono λk _ h=>.inl (.inl h)) cg).gr (hW.mono λk _ h=>.inr h) cg).gv om
open Go.RowKit Pl Go.Wk
variable {c:Cse}{cs:List Value}{w w0:World}
def MkR(w:World)(c:Cse)(u:Value)(P:Prop): Prop:=∃(dA pA aA:Option Addr) (dc pc ac an:Nat) (ok:Bool),u=.tuple #[.agg #[.int .i64 c.n,.int .i64 c.f,.slice dA c.ds.length dc,.slice pA c.pm.length pc,.slice aA an ac],.bool ok] /\
 BoolsV w (.slice dA c.ds.length dc) c.ds/\IntsV w (.slice pA c.pm.length pc) c.pm/\(ok=true->c.vs.length=c.rss.length/\∃ ats:List Atm,ats.length=c.vs.length/\GV 3 AtG w (.slice aA an ac) ats/\(∀ i,i<c.vs.length->MkA (ats.getD i a0) (c.vs.getD i []) (c.rss.getD i []))/\(P->Gd ⟨c.n,c.f,c.ds,c.pm,ats⟩))/\(MkS c->(∀ ats:List Atm,ats.length=c.vs.length->(∀ i,i<c.vs.length->MkA (ats.getD i a0) (c.vs.getD i []) (c.rss.getD i []))->Gd ⟨c.n,c.f,c.ds,c.pm,ats⟩)->ok=true)
def MkO(w0:World)(N:Nat->Prop)(w:World)(c:Cse)(u:Value)(P:Prop): Prop:=∃(dA pA aA:Option Addr) (dc pc ac an:Nat) (ok:Bool),u=.tuple #[.agg #[.int .i64 c.n,.int .i64 c.f,.slice dA c.ds.length dc,.slice pA c.pm.length pc,.slice aA an ac],.bool ok] /\
 BoolsV w0 (.slice dA c.ds.length dc) c.ds/\IntsV w0 (.slice pA c.pm.length pc) c.pm/\(ok=true->c.vs.length=c.rss.length/\∃ ats:List Atm,ats.length=c.vs.length/\Off N w (λu=>GV 3 AtG u (.slice aA an ac) ats)/\(∀ i,i<c.vs.length->MkA (ats.getD i a0) (c.vs.getD i []) (c.rss.getD i []))/\(P->Gd ⟨c.n,c.f,c.ds,c.pm,ats⟩))/\(MkS c->(∀ ats:List Atm,ats.length=c.vs.length->(∀ i,i<c.vs.length->MkA (ats.getD i a0) (c.vs.getD i []) (c.rss.getD i []))->Gd ⟨c.n,c.f,c.ds,c.pm,ats⟩)->ok=true)
theorem Qbq(h:CseV w0 cs c)(hF:FewP c)(h00:Ext w0 w): Ret Tryz.prog 28 [.agg cs.toArray] w λu w'=>Ext w w'/\MkO w0 (λk=>w0.heap.size<=k/\k<w.heap.size) w' c u True:=by
 obtain⟨b6,b5,b1,az,vA,vc,rA,rc,ay,_,_,_,_,hn,hf⟩:=id h;subst ay;refine Jz Tryz.func28 Tryz.ntmps28 rfl kr rfl ?_;refine ρ ?_;refine bx ?_;intro w1 b G hb hB;refine ρ ?_;refine alc Jqk ?_;intro w2 b2 Z ae a8;have aw:=hB.ext Z;refine ρ ?_;refine ldW aw ?_;refine ρ ?_;refine cl (Qrb h hF (h00.trans (G.trans Z))) ?_;rintro u w3 ⟨a4,dA,pA,aA,dc,pc,ac,an,ok,rfl,hD,hP,ap,aa⟩;refine ρ ?_;refine alc Jqk ?_;intro w4 b4 aj au av;refine ρ ?_;refine stW av ?_;intro w5 a7 b3 ai;have D:Ext w3 w5:=ai w3 aj au;have a1:=(a8.ext a4).ext D;have a9:=((G.trans Z).trans a4).trans D;refine ρ ?_;have y:Ext w5 w5.drew:=(Ext.refl w5).drew;have a2:¬ b4=b2:=λe=>by have:=a8.lt;have:=a4.size;omega
 have a3:=a9.trans y;have ag:∀ {W:World},GrN (λk=>k=b2) w5.drew W->Ext w W:=λhg=>hg.old a3 λk B=>by rw[B];exact nL G.size ae
 have ar:=a8.lt;cases ok with
 | true=>
  obtain⟨ad,ats,af,ab,hmk⟩:=ap rfl;have O:=(ab.ext D).ext y;have hG:=O.here;obtain⟨ts,A,cc,ax,eA,aq,ak,ao,am⟩:=Jzp hG;refine drN (λk=>k=b2) 10 [(0,0),(0,1),(0,2),(0,3),(1,4),(0,5),(0,6),(1,7),(0,8)] kr ?_;refine ρn ?_;refine Vu (cs:=[.int .i64 c.n,.int .i64 c.f,.slice dA c.ds.length dc,.slice pA c.pm.length pc,.slice aA an ac]) (λw' hg j u hu=>(Jr (a7.ext y) hg a2).at hu) ?_;refine ρn ?_;refine Vu (cs:=[.int .i64 c.n,.int .i64 c.f,.slice dA c.ds.length dc,.slice pA c.pm.length pc,.slice aA an ac]) (λw' hg j u hu=>(Jr (a7.ext y) hg a2).at hu) ?_;refine ρn ?_;refine nop ?_;refine cl (Qxg (inp:=⟨c.n,c.f,c.ds,c.pm,ats⟩) ⟨_,rfl,_,_,_,rfl,hD.ext (h00.trans a3),hP.ext (h00.trans a3),⟨ts,A,cc,ax,eA,aq,ak,ao,am⟩⟩ hn hf) ?_;rintro u w6 ⟨U,e,rfl,he⟩;refine ρ ?_;refine Qg (GrN.ext U) ?_;refine ρn ?_;refine nop ?_;refine stW ((a1.ext y).ext U) ?_;intro w7 a6 hg7 ah
  have i:GrN (λk=>k=b2) w6 w7:=GrN.by hg7 λk B=>by injection B with B;exact B.symm
  refine Je (Qg i ?_);have J:=ag ((GrN.ext U).trans i);refine ρn ?_;refine ρ ?_;refine Xh a6 ⟨J,dA,pA,aA,dc,pc,ac,an,_,rfl,hD,hP,λh=>⟨ad,ats,af,?_,hmk,λ_=>he.1 (Ug h)⟩,λ_ hC=>?_⟩;rotate_left
  .have:=he.2 (hC ats af hmk);rw[this];rfl
  have a5:=(O.ext U).gr (i.mono λk _ B=>by rw[B];exact⟨nL (h00.trans G).size ae,ar⟩);exactλW hW=>a5 W (hW.mono λk _ B=>⟨B.1,Nat.lt_of_lt_of_le B.2 (G.trans Z).size⟩)
 | false=>
  refine drN (λk=>k=b2) 10 [(0,0),(0,1),(0,2),(0,3),(1,4),(0,5),(0,6),(1,7),(0,8)] kr ?_;refine ρn ?_;refine Vu (cs:=[.int .i64 c.n,.int .i64 c.f,.slice dA c.ds.length dc,.slice pA c.pm.length pc,.slice aA an ac]) (λw' hg j u hu=>(Jr (a7.ext y) hg a2).at hu) ?_;refine ρn ?_;refine nop ?_;refine stW (a1.ext y) ?_;intro w7 a6 hg7 ah;have i:GrN (λk=>k=b2) w5.drew w7:=GrN.by hg7 λk B=>by injection B with B;exact B.symm
  refine Je (Qg i ?_);have J:=ag i;refine ρn ?_;refine ρ ?_;exact Xh a6 ⟨J,dA,pA,aA,dc,pc,ac,an,false,rfl,hD,hP,λh=>(by cases h),λhS _=>aa hS⟩
theorem Qjx(h:CseV w cs c)(hF:FewP c): Ret Tryz.prog 28 [.agg cs.toArray] w λu w'=>Ext w w'/\MkR w' c u True:=(Qbq h hF (Ext.refl w)).mono λu w' ⟨i,dA,y,aA,dc,j,ac,an,B,e,h1,h2,Z,U⟩=>⟨i,dA,y,aA,dc,j,ac,an,B,e,h1.ext i,h2.ext i,λh=>by
 obtain⟨O,ats,J,G,D⟩:=Z h;exact⟨O,ats,J,G.here,D⟩,U⟩
end Go.Proofs.YtebiphhfkdbpfaaGreatDoor
namespace Go.Proofs.YtebiphhfkdbpfaaGreatDoor
open Pl Go.Wk Bl Nw
variable {ds:List Bool}{ord sizes:List Nat}{l ls rows:List Row}{col i n s u v:Nat}{pf pf' pf0:Nat->Int}{rs:Nat->List Row}{kf' kf0:Nat->Nat}{g g':Nat->Row}
theorem Jkv{α:Type}: ∀ {l m:List α},l.Nodup->(∀ x∈l,x∈m)->l.length<=m.length
 | [],_,_,_=>Nat.zero_le _
 | x::l,m,hn,hs=>by
  obtain⟨a,b,rfl⟩:=List.append_of_mem (hs x mC);have hn':=List.nodup_cons.1 hn;have:=Jkv (l:=l) (m:=a++b) hn'.2 λy hy=>by grind
  grind
def Ig(rs:Nat->List Row): Nat->List (List Row)
 | 0=>[[]]
 | m+1=>(Ig rs m).flatMap λc=>(rs m).map λr=>c++[r]
theorem Qkz(rs:Nat->List Row): ∀ m,(Ig rs m).length=Xk m λi=>(rs i).length
 | 0=>rfl
 | m+1=>by
  rw[Ig,Xk,<-Qkz rs m];generalize Ig rs m=l
  induction l with
  | nil=>simp
  | cons c l ih=>rw[List.flatMap_cons,List.length_append,ih,List.length_map,List.length_cons,Nat.succ_mul,Nat.add_comm]
theorem Qkx{rs:Nat->List Row}(g:Nat->Row): ∀ m,(∀ i,i<m->g i∈rs i)->(List.range m).map g∈Ig rs m
 | 0,_=>by simp[Ig]
 | m+1,h=>by
  rw[List.range_succ,List.map_append,Ig,List.mem_flatMap];refine⟨_,Qkx g m λi hi=>h i om,?_⟩;grind
theorem Xxc{m:Nat}(F:(Nat->Row)->Row)(hF:∀ g g',(∀ i,i<m->g i=g' i)->F g=F g')(hn:l.Nodup)(h:∀ x∈l,∃ g:Nat->Row,(∀ i,i<m->g i∈rs i)/\x=F g):
  l.length<=Xk m λi=>(rs i).length:=by
 rw[<-Qkz];have:=Jkv (m:=(Ig rs m).map λc=>F λi=>c.getD i []) hn λx j=>by
  obtain⟨g,u,rfl⟩:=h x j;refine List.mem_map.2 ⟨_,Qkx g m u,hF _ _ λi hi=>?_⟩;simp[List.getD,hi]
 grind
theorem Jbh(h:Lt ds l): l.Nodup:=h.imp fun {a b} hab e=>by grind [Il]
def Jxg(m:Nat)(vars:Nat->List Nat)(g:Nat->Row)(v:Nat): V:=match(List.range m).find? λi=>decide (v∈vars i) with
 | some i=>(g i).getD (lv (vars i) v) V0
 | none=>V0
theorem Qlf{m:Nat}{vars:Nat->List Nat}(h:∀ i,i<m->g i=g' i)(v:Nat): Jxg m vars g v=Jxg m vars g' v:=by grind [Jxg,List.range,List.mem_range.1,List.mem_of_find?_eq_some]
theorem Qld{m:Nat}{vars:Nat->List Nat}{z:Row}(hasc:∀ i,i<m->Xm (vars i))(hc:∃ i,i<m/\v∈vars i)(h:∀ i,i<m->∀ j,j<(vars i).length->(vars i).getD j 0=v->(g i).getD j V0=z.getD v V0): Jxg m vars g v=z.getD v V0:=by
 unfold Jxg;cases hf:(List.range m).find? λi=>decide (v∈vars i) with
 | none=>
  grind
 | some i=>
  have hi:=List.mem_range.1 (List.mem_of_find?_eq_some hf);have u:v∈vars i:=by grind
  have:=Yj (hasc i hi) u;grind
theorem Xwq{m:Nat}{vars:Nat->List Nat}(hasc:∀ i,i<m->Xm (vars i))(hc:∀ v,v<n->∃ i,i<m/\v∈vars i)(hs:s<2^n)(hl:Lt [] l)(h:∀ x∈l,∃ z:Row,z.length=n/\x=pmR (bk s 32) z/\Jqj m vars rs s z): l.length<=Xk m λi=>(rs i).length:=by
 refine Xxc (F:=λg=>(bk s 32).map (Jxg m vars g)) (λg U u=>List.map_congr_left λv _=>Qlf u v) (Jbh hl) λx y=>?_;obtain⟨z,O,rfl,J⟩:=h x y;obtain⟨g,u⟩:∃ g:Nat->Row,∀ i,i<m->g i∈rs i/\∀ j,j<(vars i).length->s.testBit ((vars i).getD j 0)=true->(g i).getD j V0=z.getD ((vars i).getD j 0) V0:=by
  refine⟨λi=>if hi:i<m then Classical.choose (J i hi) else[],λi hi=>?_⟩;grind
 refine⟨g,λi hi=>(u i hi).1,?_⟩;unfold pmR;refine List.map_congr_left λv G=>?_;obtain⟨D,B⟩:=bk_mem.1 G;grind [Qld,Jzn]
def toN(l:List Int): List Nat:=l.map Int.toNat
theorem Jyv{l:List Int}(h:∀ v∈l,0<=v): nz (toN l)=l:=by
 unfold nz toN;rw[List.map_map];conv=>rhs;rw[<-List.map_id l]
 grind [List.map_congr_left]
theorem Jdl{l:List Int}(h:∀ v∈l,0<=v): u∈toN l↔(u:Int)∈l:=by grind [Jyv,nz]
theorem Xwv{l:List Nat}(h:Ir (nz l)): Xm l:=by
 unfold Xm;rw[List.pairwise_iff_getElem];intro i j hi y B;have step:∀ k,0<k->k<l.length->l.getD (k-1) 0<l.getD k 0:=λk h0 u=>by
  have:=h k h0 (by rw[Xw];exact u);grind [Jgd]
 have key:∀ d,i+1+d<l.length->l.getD i 0<l.getD (i+1+d) 0:=by
  intro d;induction d with
  | zero=>intro D;have:=step (i+1) om D;simpa using this
  | succ d ih=>
   grind
 have:=key (j-(i+1)) om;rw[show i+1+(j-(i+1))=j by omega,Ql 0 _ hi,Ql 0 _ y]at this;exact this
structure CseOk(c:Cse)(ats:List Atm): Prop where
 few:FewP c
 len:c.vs.length=c.rss.length
 al:ats.length=c.vs.length
 mka:∀ i,i<c.vs.length->MkA (ats.getD i a0) (c.vs.getD i []) (c.rss.getD i [])
 chk:Gd ⟨c.n,c.f,c.ds,c.pm,ats⟩
def Cse.N(c:Cse): Nat:=c.n.toNat
def Cse.F(c:Cse): Nat:=c.f.toNat
def Cse.m(c:Cse): Nat:=c.vs.length
def Cse.vars(c:Cse)(i:Nat): List Nat:=toN (c.vs.getD i [])
def Cse.crs(c:Cse)(i:Nat): List Row:=c.rss.getD i []
def rsA(ats:List Atm)(i:Nat): List Row:=(ats.getD i a0).rows
section
variable {c:Cse} {ats:List Atm}
theorem CseOk.nN(h:CseOk c ats): c.n=(c.N:Int)/\c.N<=6:=by
 have u:=h.chk.1;have j:=h.chk.2.1;have i:=h.few.n6;grind [Cse.N]
theorem CseOk.fF(h:CseOk c ats): c.f=(c.F:Int)/\c.F<=c.N:=by
 obtain⟨u,_,j,i,_⟩:=h.chk;grind [Cse.F,Cse.N]
theorem CseOk.at_(h:CseOk c ats)(hi:i<c.m): Gg c.n (ats.getD i a0):=by
 obtain⟨_,_,_,_,_,_,_,_,_,_,_,j,_⟩:=h.chk;exact j _ (getD_mem' a0 _ (by rw[h.al];exact hi))
theorem CseOk.vars(h:CseOk c ats){i:Nat}(hi:i<c.m): nz (c.vars i)=c.vs.getD i []/\Xm (c.vars i)/\(∀ v∈c.vars i,v<c.N)/\(c.vars i).length=(c.vs.getD i []).length:=by
 obtain⟨B,u,D⟩:=h.at_ hi;have y:=(h.mka i hi).vars;rw[y]at B u;have h0:∀ v∈c.vs.getD i [],0<=v:=λv j=>(u v j).1;refine⟨Jyv h0,Xwv (by grind [Cse.vars,Jyv]),λv j=>?_,by simp[Cse.vars,toN]⟩;have:=(u v ((Jdl h0).1 j)).2;have:=h.nN.1;omega
theorem CseOk.cov(h:CseOk c ats)(hv:v<c.N): ∃ i,i<c.m/\v∈c.vars i:=by
 obtain⟨_,_,_,_,_,_,_,_,_,_,_,_,O⟩:=h.chk;obtain⟨a,J,y⟩:=O v (by have:=h.nN.1;simp only;omega);obtain⟨i,hi,e⟩:=List.getElem_of_mem J;have j:i<c.m:=by have:=h.al;grind [Cse.m]
 have D:ats.getD i a0=a:=by grind
 have B:=(h.mka i j).vars;rw[D]at B;refine⟨i,j,(Jdl λu G=>?_).2 (B ▸ y)⟩;have:=(h.at_ j).2.1 u (by rw[D,B];exact G);exact this.1
theorem CseOk.set(h:CseOk c ats){i:Nat}(hi:i<c.m): Zn [] (c.crs i) (rsA ats i):=(h.mka i hi).set (by have:=h.few.row i (by rw[<-h.len];exact hi);grind)
theorem CseOk.clen(h:CseOk c ats)(hi:i<c.m): ∀ r∈c.crs i,r.length=(c.vars i).length:=λr j=>by rw[(h.vars hi).2.2.2];exact((h.mka i hi).ok r j).1
theorem CseOk.slen(h:CseOk c ats)(hi:i<c.m): ∀ r∈rsA ats i,r.length=(c.vars i).length:=λr j=>h.clen hi r (((h.set hi).2 r).1 j)
theorem Jsr{g g':Nat->Nat}(h:∀ c,c<n->g c<=g' c): Xk n g<=Xk n g':=by
 induction n with
 | zero=>exact Nat.le_refl _
 | succ n ih=>rw[Xk,Xk];exact Nat.mul_le_mul (ih λc i=>h c om) (h n om)
theorem CseOk.cnt(h:CseOk c ats): max 1 (Xk c.m λi=>(c.crs i).length)<=5000:=by
 have j:=h.few.cnt;rw[<-h.len]at j;have u:Xk c.m (λi=>(c.crs i).length)<=Xk c.vs.length λi=>max 1 (c.rss.getD i []).length:=Jsr λi _=>Nat.le_max_right _ _;omega
theorem Jrj{m:List Row}(h:Zn ds ls m): m.length<=ls.length:=Jkv (Jbh h.1) λx i=>(h.2 x).1 i
theorem CseOk.pm(h:CseOk c ats): PermOk c.N c.F (toN c.pm)/\nz (toN c.pm)=c.pm:=by
 obtain⟨_,_,_,_,_,u,j,i,_⟩:=h.chk;simp only at u j i;have hn:=h.nN.1;have B:=h.fF.1;have h0:∀ v∈c.pm,0<=v:=by grind
 refine⟨⟨h.fF.2,by simp[toN];omega,λv y=>?_,?_⟩,Jyv h0⟩;repeat grind [Jdl,toN,List.Nodup,List.Pairwise.imp_of_mem]
theorem CseOk.run(h:CseOk c ats){ts:List TA}(hts:ats=ts.map (·.2)): RunOk c.N ts c.vars (rsA ats):=by
 have O:=h.nN.2;have j:ts.length=c.m:=by have:=h.al;rw[hts,List.length_map]at this;exact this
 refine⟨om,by have:=h.few.v5;grind [Cse.m],λi hi=>?_,λi hi=>(h.vars (j ▸ hi)).2.1,λi hi=>(h.vars (j ▸ hi)).2.2.1,λv G=>by rw[j];exact h.cov G,λi hi=>(h.set (j ▸ hi)).1,λi hi=>h.slen (j ▸ hi),λi hi=>(h.mka i (show i<c.m from j ▸ hi)).len⟩;have u:i<c.m:=j ▸ hi;have e:(ts.getD i ta0).2=ats.getD i a0:=by grind
 have y:=h.mka i u;obtain⟨D,_,_,B⟩:=h.vars u;rw[e];have J:ats.getD i a0=⟨(ats.getD i a0).vars,(ats.getD i a0).ar,(ats.getD i a0).rows⟩:=rfl;rw[J,y.vars,y.ar,D,B];rfl
def Cse.vss(c:Cse): List (List Nat):=(List.range c.m).map c.vars
def Cse.es(c:Cse): List Nat:=c.vss.map Xt
def szA(ats:List Atm): List Nat:=ats.map λa=>a.rows.length
theorem Cse.esl(c:Cse): c.es.length=c.m:=by simp[Cse.es,Cse.vss]
theorem Cse.esg{c:Cse}(hi:i<c.m): c.es.getD i 0=Xt (c.vars i):=by
 simp[Cse.es,Cse.vss,List.getD,hi]
theorem CseOk.elt(h:CseOk c ats): ∀ e∈c.es,e<2^c.N:=λe u=>by
 obtain⟨vs,j,rfl⟩:=List.mem_map.1 u;obtain⟨i,hi,rfl⟩:=List.mem_map.1 j;exact Jcd (h.vars (List.mem_range.1 hi)).2.2.1
theorem CseOk.bagset(h:CseOk c ats){kf:Nat->Nat}(hb:Yd c.N c.es (Zc (toN c.pm) c.F) kf pf)(hv:v<c.N): kf v ||| 2^v<2^c.N/\kf v ||| 2^v≠0/\(kf v ||| 2^v).testBit v=true:=by
 have j:(kf v ||| 2^v).testBit v=true:=by rw[Nat.testBit_or,Nat.testBit_two_pow];simp
 refine⟨?_,λe=>by rw[e]at j;simp at j,j⟩;refine Nat.lt_pow_two_of_testBit _ λi hi=>?_;cases hbt:(kf v ||| 2^v).testBit i with
 | false=>rfl
 | true=>
  rw[Nat.testBit_or,Nat.testBit_two_pow,Bool.or_eq_true,decide_eq_true_eq]at hbt;rcases hbt with hbt|hbt
  .rw[(hb v hv).2.1]at hbt;have:=Jhd (nb:=nb0 c.N c.es) (ord:=Zc (toN c.pm) c.F) (N:=c.N) (λa b u=>(Jkx h.elt u).2.1) hbt;omega
  omega
theorem CseOk.covd(h:CseOk c ats)(set:Nat): Uu c.N c.es set:=λv j _=>by
 obtain⟨i,hi,u⟩:=h.cov j;exact⟨i,by rw[Cse.esl];exact hi,by rw[Cse.esg hi];exact edgeOf_bit.2 u⟩
theorem CseOk.five(h:CseOk c ats): c.es.length<=5:=by rw[Cse.esl];exact h.few.v5
theorem CseOk.row10(h:CseOk c ats)(hi:i<c.m): (rsA ats i).length<=10 :=
 nL (Jrj (h.set hi)) (h.few.row i (by rw[<-h.len];exact hi))
theorem CseOk.szl(h:CseOk c ats): (szA ats).length=c.es.length:=by rw[Cse.esl,szA,List.length_map,h.al];rfl
theorem CseOk.szg(h:CseOk c ats)(hi:i<c.m): (szA ats).getD i 0=(rsA ats i).length:=by
 have:i<ats.length:=by rw[h.al];exact hi
 simp[szA,rsA,List.getD,this]
theorem CseOk.szs(h:CseOk c ats): ∀ s∈szA ats,s<2048:=λs u=>by
 obtain⟨i,hi,rfl⟩:=List.getElem_of_mem u;have j:i<c.m:=by rw[h.szl,Cse.esl]at hi;exact hi
 have:=h.row10 j;rw[<-h.szg j,Qv 0 hi]at this;omega
theorem Qqj{f:Nat->Nat}: ∀ {l:List Nat},l≠[]->∃ p∈l,∀ x∈l,f p<=f x
 | [a],_=>⟨a,by simp,by simp⟩
 | a::b::l,_=>by
  obtain⟨p,hp,h⟩:=Qqj (f:=f) (l:=b::l) (by simp);rcases Nat.lt_or_ge (f a) (f p) with h1|h1
  .refine⟨a,by simp,λx hx=>?_⟩;rcases List.mem_cons.1 hx with rfl|hx
   .exact Nat.le_refl _
   have:=h x hx;omega
  refine⟨p,by simp[hp],λx hx=>?_⟩;rcases List.mem_cons.1 hx with rfl|hx
  .exact h1
  exact h x hx
theorem Xwn{es:List Nat}(hn:n<=32)(he:∀ e∈es,e<2^n): ∃ kf pf,Yd n es ord kf pf:=by
 have B:∀ v x,Vx (nb0 n es) ord v x=true->x<n:=λv x h=>Jhd (nb:=nb0 n es) (ord:=ord) (N:=n) (λa b u=>(Jkx he u).2.1) h;let F:Nat->List Nat:=λv=>(List.range n).filter λx=>Vx (nb0 n es) ord v x
 have i:∀ v x,x∈F v↔Vx (nb0 n es) ord v x=true:=λv x=>by
  show x∈(List.range n).filter _↔_;rw[List.mem_filter,List.mem_range];exact⟨λh=>h.2,λh=>⟨B v x h,h⟩⟩
 have y:∀ v,∃ p:Int,(p = -1/\∀ x,Vx (nb0 n es) ord v x=false)∨∃ q:Nat,p=q/\Vx (nb0 n es) ord v q=true/\∀ x,Vx (nb0 n es) ord v x=true->plc ord q<=plc ord x:=λv=>by
  by_cases h0:F v=[]
  .refine⟨-1,.inl ⟨rfl,λx=>Bool.eq_false_iff.2 λh=>?_⟩⟩;have:=(i v x).2 h;rw[h0]at this;cases this
  obtain⟨q,D,h⟩:=Qqj (f:=plc ord) h0;exact⟨q,.inr ⟨q,rfl,(i v q).1 D,λx j=>h x ((i v x).2 j)⟩⟩
 refine⟨λv=>Xt (F v),λv=>Classical.choose (y v),λv G=>⟨?_,λx=>?_,Classical.choose_spec (y v)⟩⟩
 .refine nM (Jcd λx j=>B v x ((i v x).1 j)) ?_;exact Nat.pow_le_pow_right (by decide) hn
 rw[Bool.eq_iff_iff,edgeOf_bit,i]
theorem Qvn{es:List Nat}{kf:Nat->Nat}(h:Yd n es ord kf pf)(h':Yd n es ord kf' pf')(hv:v<n): kf v=kf' v :=
 Nat.eq_of_testBit_eq λx=>by rw[(h v hv).2.1,(h' v hv).2.1]
def Ye(c:Cse)(kf:Nat->Nat)(sizes:List Nat)(v:Nat): Nat:=Ut c.N c.es sizes (kf v ||| 2^v)
theorem CseOk.bagB(h:CseOk c ats)(hdiv:Gl KQ)(hl:sizes.length=c.es.length)(hs:∀ s∈sizes,s<2048){kf:Nat->Nat}(hb:Yd c.N c.es (Zc (toN c.pm) c.F) kf pf)(hv:v<c.N): BagB c.N c.es sizes (kf v ||| 2^v) (Ye c kf sizes v):=by
 obtain⟨j,i,_⟩:=h.bagset hb hv;exact Xws hdiv h.five hl hs j i (h.covd _)
theorem Xkm{set:Nat}{es:List Nat}(h5:es.length<=5)(hl:sizes.length=es.length)(hs:∀ s∈sizes,s<2048)(hlt:set<2^n)(h0:set≠0)(hc:Uu n es set): Ut n es sizes set<2^KP:=by
 obtain⟨u,B,j,D⟩:=Jmc h5 h0 hlt hc;obtain⟨_,G,_⟩:=D sizes hl;have i:sN es.length (exK u.ws)<=300:=nL (j.tot5 hc) (Nat.mul_le_mul j.d60.2.2 h5);have y:∀ k,sizes.getD k 0<=2048:=λk=>by
  by_cases hk:k<sizes.length
  .rw[Qv 0 hk];exact Nat.le_of_lt (hs _ (List.getElem_mem _))
  rw[List.getD,List.getElem?_eq_none om];exact Nat.zero_le _
 have O:=Nat.lt_of_le_of_lt (Jtb (a:=2048) (n:=es.length) (s:=λk=>sizes.getD k 0) (e:=exK u.ws) λk _ _=>y k) (pw11 i);have J:=Nat.le_self_pow (n:=dnm u.ws) (by have:=j.d60.2.1;omega) (Ut n es sizes set);omega
theorem Qjf(h:n<2^(KP+9)): Nb n:=by
 unfold Nb;refine nM h ?_;rw[show 4294967296=2^32 from rfl,<-Nat.pow_mul];exact Nat.pow_le_pow_right (by decide) (by rw[Jmh];unfold KP;decide)
theorem CseOk.bndV_lt(h:CseOk c ats)(hl:sizes.length=c.es.length)(hs:∀ s∈sizes,s<2048){kf:Nat->Nat}(hb:Yd c.N c.es (Zc (toN c.pm) c.F) kf pf)(hv:v<c.N): Ye c kf sizes v<2^KP:=by
 obtain⟨j,i,_⟩:=h.bagset hb hv;exact Xkm h.five hl hs j i (h.covd _)
open Classical in
noncomputable def Ib (l:List V):List V:=l.foldl (λs v=>if v∈s then s else s++[v]) []
open Classical in
theorem Xjw (l:List V) (v:V):Ib (l++[v])=if v∈Ib l then Ib l else Ib l++[v]:=by
 unfold Ib;rw[List.foldl_append];rfl
theorem Xjx: ∀ l:List V,(Ib l).Nodup/\∀ v,v∈Ib l↔v∈l:=λl=>by
 rw[<-List.reverse_reverse l];induction l.reverse with
 | nil=>exact⟨List.nodup_nil,λv=>Iff.rfl⟩
 | cons a k ih=>
  rw[List.reverse_cons,Xjw];split
  .rename_i hm;refine⟨ih.1,λv=>?_⟩;rw[ih.2 v,List.mem_append,List.mem_singleton];refine⟨λh=>.inl h,λh=>h.elim id λe=>by rw[e];exact(ih.2 a).1 hm⟩
  rename_i hm;refine⟨List.nodup_append.2 ⟨ih.1,by simp,λx j y i e=>?_⟩,λv=>by rw[List.mem_append,List.mem_append,ih.2 v]⟩;rw[List.mem_singleton.1 i]at e;exact hm (e ▸ j)
noncomputable def cntD(l:List V): Nat:=(Ib l).length
theorem Xzc{l m:List V}(hn:m.Nodup)(h:∀ v,v∈m↔v∈l): m.length=cntD l:=by
 obtain⟨u,j⟩:=Xjx l;exact Nat.le_antisymm (Jkv hn λx i=>(j x).2 ((h x).1 i)) (Jkv u λx i=>(h x).2 ((j x).1 i))
noncomputable def dA(x:Nat)(a:Atm): Nat:=cntD (a.rows.map λr=>r.getD (a.vars.idxOf (x:Int)) V0)
theorem Xxv{m:List Row}(h:Zn [] (rows.map (pmR [col])) m): m.length=cntD (rows.map λr=>r.getD col V0):=by
 have i:∀ y∈m,∃ r∈rows,y=[r.getD col V0]:=λy j=>by
  obtain⟨r,u,rfl⟩:=List.mem_map.1 ((h.2 y).1 j);exact⟨r,u,rfl⟩
 rw[<-List.length_map (f:=λy:Row=>y.getD 0 V0)];refine Xzc ?_ λv=>?_
 .rw[List.Nodup,List.pairwise_map];refine List.Pairwise.imp_of_mem ?_ (Jbh h.1);intro x y D j B e;obtain⟨r,_,rfl⟩:=i x D;obtain⟨s,_,rfl⟩:=i y j;exact B (by rw[show r.getD col V0=s.getD col V0 from e])
 rw[List.mem_map,List.mem_map];constructor
 .rintro⟨y,j,rfl⟩;obtain⟨r,u,rfl⟩:=i y j;exact⟨r,u,rfl⟩
 rintro⟨r,u,rfl⟩;exact⟨[r.getD col V0],(h.2 _).2 (List.mem_map.2 ⟨r,u,rfl⟩),rfl⟩
theorem CseOk.cntA(h:CseOk c ats)(hi:i<c.m)(x:Nat): CntA (dA x) (x:Int) (ats.getD i a0):=by
 obtain⟨a1,a2,Z⟩:=h.at_ hi;have D:=h.mka i hi;have y:=h.vars hi;refine⟨a1,Z,λr O=>?_,by have:=h.row10 hi;unfold rsA at this;omega,λu m G J j=>?_⟩
 .rw[D.ar,<-y.2.2.2];exact h.slen hi r O
 rw[Xxv j];have B:(ats.getD i a0).vars.Nodup:=by
  have U:(c.vars i).Pairwise (· < ·):=y.2.1
  rw[D.vars,<-y.1,nz,List.Nodup,List.pairwise_map];exact U.imp fun {a b} hab e=>by omega
 have e:(ats.getD i a0).vars.idxOf (x:Int)=u:=by
  rw[<-J,Qv 0 G];exact B.idxOf_getElem u G
 unfold dA;rw[e]
theorem CseOk.costI(h:CseOk c ats)(hdiv:Gl KQ)(hb0:Yd c.N c.es (Zc (toN c.pm) c.F) kf0 pf0): CostI c.N c.F (toN c.pm) c.vss (szA ats) dA (Ye c kf0 (szA ats)) ⟨c.n,c.f,c.ds,c.pm,ats⟩:=by
 have hN:=h.nN;have D:ats.map (·.vars)=c.vss.map nz:=by
  refine List.ext_getElem (by simp[Cse.vss,h.al];rfl) λi Z U=>?_;have hi:i<c.m:=by simpa [Cse.vss] using U
  have O:i<ats.length:=by rw[h.al];exact hi
  simp only[List.getElem_map,Cse.vss,List.getElem_range];rw[(h.vars hi).1,<-(h.mka i hi).vars,Qv a0 O]
 have B:∀ v,v<c.N->Ye c kf0 (szA ats) v<2^KP:=λv u=>h.bndV_lt h.szl h.szs hb0 u;generalize hr:Ye c kf0 (szA ats)=r at *
 have y:∀ i,i<=c.N->((((List.range c.N).map r).take i).foldl (· + ·) 0)<=i*2^KP:=λi=>by
  induction i with
  | zero=>intro _;simp
  | succ i ih=>
   intro hi;have Z:=ih om;have U:=B i om;have e:((List.range c.N).map r).take (i+1)=((List.range c.N).map r).take i++[r i]:=by
    rw[List.take_add_one];simp[show i<c.N by omega]
   rw[e,List.foldl_append,Nat.add_mul];simp only[List.foldl_cons,List.foldl_nil];omega
 have h8:6*2^KP<2^(KP+9):=by
  rw[Nat.pow_add,Nat.mul_comm];exact Nat.mul_lt_mul_of_pos_left (by decide) (Nat.two_pow_pos _)
 have j:∀ i,i<=c.N->Nb ((((List.range c.N).map r).take i).foldl (· + ·) 0):=λi hi=>by
  have Z:=y i hi;have U:=nO (2^KP) (show i<=6 by omega);exact Qjf om
 refine⟨h.chk,hN.1,h.fF.1,h.pm.2.symm,D,rfl,by rw[h.al];exact h.few.v5,h.pm.1,om,λvs J x G=>?_,λx G a ha=>?_,λkf pf hb v u=>?_,?_,j,λx G=>?_⟩
 .obtain⟨i,hi,rfl⟩:=List.mem_map.1 J;exact(h.vars (List.mem_range.1 hi)).2.2.1 x G
 .obtain⟨i,hi,rfl⟩:=List.getElem_of_mem ha;have:=h.cntA (i:=i) (by rw[h.al]at hi;exact hi) x;rwa [Qv a0 hi]at this
 .have e:r v=Ye c kf (szA ats) v:=by rw[<-hr];unfold Ye;rw[Qvn hb0 hb u]
  rw[e];exact h.bagB hdiv h.szl h.szs hb u
 .have:=j c.N (Nat.le_refl _);rwa [List.take_of_length_le (by simp)]at this
 obtain⟨v,u,rfl⟩:=List.mem_map.1 G;have Z:=B v (List.mem_range.1 u);have:2^KP<=2^(KP+9):=Nat.pow_le_pow_right (by decide) om;exact Qjf om
end
open Pl Go.Wk Bl Nw
variable {R l:List Row}{s v:Nat}
section
variable {n:Nat} {es sizes:List Nat} {set:Nat} {ws:List PR}
theorem Xkl{α:Type}{L:List Nat}{R:List (List α)}{P:Nat->List (List α)}(h5:es.length<=5)(h0:set≠0)(hlt:set<2^n)(hc:Uu n es set)(hl:sizes.length=es.length)(hR:R.Nodup)(hlen:∀ x∈R,x.length=L.length)(hL:∀ v∈L,v<n/\set.testBit v=true)(hp:∀ k,k<es.length->(∀ x∈R,Agm.prj (λv=>(es.getD k 0).testBit v) L x∈P k)/\(P k).length<=sizes.getD k 0): R.length<=Ut n es sizes set:=by
 obtain⟨i,_,j,J⟩:=Jmc h5 h0 hlt hc;obtain⟨_,G,B⟩:=J sizes hl;have key:=Agm.agm (L:=L) (R:=R) (m:=es.length) (D:=dnm i.ws) (E:=λk v=>(es.getD k 0).testBit v) (P:=P) (e:=exK i.ws) hR hlen j.d60.2.1 (λv y=>j.covN (hL v y).1 (hL v y).2) λk u=>(hp k u).1;have O:(prN es.length λk=>(P k).length^exK i.ws k)<=prN es.length λk=>sizes.getD k 0^exK i.ws k:=Qht λk u=>Nat.pow_le_pow_left (hp k u).2 _;rcases Nat.lt_or_ge (Ut n es sizes set) R.length with h|h
 .exfalso
  have:=Nat.pow_le_pow_left (show Ut n es sizes set+1<=R.length from h) (dnm i.ws);omega
 exact h
end
theorem Jsw{α:Type}{E:Nat->Bool}(f:Nat->α): ∀ L:List Nat,Agm.prj E L (L.map f)=(L.filter E).map f
 | []=>rfl
 | v::L=>by
  rw[List.map_cons,Agm.prj,Jsw f L,List.filter_cons];split<;>rfl
section
variable {c:Cse} {ats:List Atm}
theorem CseOk.rows_le(h:CseOk c ats){kf:Nat->Nat}{pf:Nat->Int}(hb:Yd c.N c.es (Zc (toN c.pm) c.F) kf pf)(hv:v<c.N)(hR:Jmm c.N c.m c.vars (rsA ats) (kf v ||| 2^v) R): R.length<=Ye c kf (szA ats) v:=by
 obtain⟨B,Z,_⟩:=h.bagset hb hv;obtain⟨a1,i,_⟩:=hR;unfold Ye;generalize kf v ||| 2^v=s at *
 refine Xkl (L:=bk s 32) (P:=λk=>(rsA ats k).map λr=>((bk s 32).filter λu=>(c.es.getD k 0).testBit u).map λu=>r.getD (lv (c.vars k) u) V0) h.five Z B (h.covd _) h.szl (Jbh a1) (λx G=>?_) (λu O=>?_) λk D=>⟨λx G=>?_,?_⟩
 .obtain⟨z,_,rfl,_⟩:=(i x).1 G;simp[pmR]
 .obtain⟨_,hb⟩:=bk_mem.1 O;exact⟨Jzn B hb,hb⟩
 .have j:k<c.m:=by rw[c.esl]at D;exact D
  obtain⟨z,_,rfl,hz⟩:=(i x).1 G;obtain⟨r,hr,ha⟩:=hz k j;unfold pmR;rw[Jsw];refine List.mem_map.2 ⟨r,hr,List.map_congr_left λu O=>?_⟩;obtain⟨J,y⟩:=List.mem_filter.1 O;obtain⟨_,U⟩:=bk_mem.1 J;rw[Cse.esg j,edgeOf_bit]at y;obtain⟨_,l2,l3⟩:=Yj (h.vars j).2.1 y;have:=ha _ l2 (by rw[l3];exact U);rw[l3]at this;exact this
 rw[List.length_map,h.szg (by rw[c.esl]at D;exact D)];exact Nat.le_refl _
theorem CseOk.bagcap(h:CseOk c ats)(hs:s<2^c.N)(hl:Lt [] l)(hx:∀ x∈l,∃ z:Row,z.length=c.N/\x=pmR (bk s 32) z/\Jqj c.m c.vars (rsA ats) s z): l.length<=65536:=by
 have B:=Xwq (m:=c.m) (vars:=c.vars) (rs:=rsA ats) (l:=l) (λi hi=>(h.vars hi).2.1) (λv j=>h.cov j) hs hl hx;have y:Xk c.m (λi=>(rsA ats i).length)<=Xk c.m λi=>(c.crs i).length:=Jsr λi hi=>Jrj (h.set hi);have u:=h.cnt;omega
theorem CseOk.mok(h:CseOk c ats){ts:List TA}(hts:ats=ts.map (·.2))(hs:s<2^c.N): MOk c.N ts c.vars (rsA ats) s:=by
 have j:ts.length=c.m:=by have:=h.al;rw[hts,List.length_map]at this;exact this
 refine⟨h.run hts,hs,λi hi r u=>?_,λi hi=>.inl ?_⟩
 .exact((h.mka i (show i<c.m from j ▸ hi)).ok r (((h.set (j ▸ hi)).2 r).1 u)).2
 have:=h.row10 (i:=i) (j ▸ hi);omega
end
end Go.Proofs.YtebiphhfkdbpfaaGreatDoor
namespace Go.Wk
open Go.RowKit
theorem finC4{P:Program}{n:Nat}{al:AL}{w:World}{tt:TT}[h:Tab P tt]{fn:Func}{Φ:Value->World->Prop}{c t t1 t2 t3 b:Nat}{k:TK}{cs:List Value}{x y z:Value}(hb:Blk w b t cs)(hp:Φ (.tuple #[.agg cs.toArray,x,y,z]) w)(hr:fn.results = #[.cell c t,.tmp t1,.tmp t2,.tmp t3]:=by rfl)(ht:tk tt t=some k:=by rfl)(hk:k.desc=.invalid:=by rfl)(hs:k.size=cs.length:=by rfl)(hc:lk al c=some (.pointer (some ⟨b,0,none⟩)):=by rfl)(h1:lk al t1=some x:=by rfl)(h2:lk al t2=some y:=by rfl)(h3:lk al t3=some z:=by rfl):
  QX n (Yk P fn Φ) .ret al w :=
 Jzg (rs:=[.cell c t,.tmp t1,.tmp t2,.tmp t3]) (vs:=[.agg cs.toArray,x,y,z]) hr ⟨⟨_,hc,Jjd h.ok ht hk hs (λj u i=>hb.at i)⟩,h1,h2,h3,trivial⟩ rfl hp
end Go.Wk
namespace Go.Proofs.YtebiphhfkdbpfaaGreatDoor
open Go.RowKit Pl Go.Wk Bl Nw
attribute [local irreducible] WC WL QX WD WDB WP WN WG WH
variable {inp:Inp}{vss:List (List Nat)}{es perm sizes:List Nat}{f n:Nat}{w w':World}
structure GraI(n f:Nat)(perm:List Nat)(vss:List (List Nat))(sizes:List Nat)(inp:Inp): Prop where
 en:inp.n=(n:Int)
 ef:inp.free=(f:Int)
 ep:inp.perm=nz perm
 ev:inp.ats.map (·.vars)=vss.map nz
 es:inp.ats.map (λa=>a.rows.length)=sizes
 five:inp.ats.length<=5
 pok:PermOk n f perm
 n32:n<=32
 vlt:∀ vs∈vss,∀ x∈vs,x<n
theorem CostI.gra{d:Nat->Atm->Nat}{r:Nat->Nat}(h:CostI n f perm vss sizes d r inp): GraI n f perm vss sizes inp:=⟨h.en,h.ef,h.ep,h.ev,h.es,h.five,h.pok,h.n32,h.vlt⟩
theorem GrV.off{b t c:Nat}{cs:List Value}{A:Option Addr}(h:GrV w A c n es)(hB:Blk w b t cs)(hcs:∀ u∈cs,∀ x,u≠.int .u32 x)(hg:w.grownBy w' (some b)): GrV w' A c n es:=by
 refine⟨?_,h.cap,h.n32,h.few,h.lt⟩;rcases Nat.eq_zero_or_pos es.length with h0|h0
 .have:es=[]:=List.eq_nil_of_length_eq_zero h0;subst this;exact Rd.nil
 refine Rd.grown h.rd hg λad e i=>?_;subst e;have B:(Uc es)[0]?=some (.int .u32 (es[0]:Int)):=by simp[Uc,h0]
 have y:=h.rd.cell B;have j:ad.block=b:=by injection i with i;exact i.symm
 exact hcs _ (List.mem_of_getElem? (Jcn hB (ad:=adr (some ad) 0) j y)) _ rfl
theorem Qtn{v:Value}(hC:GraI n f perm vss sizes inp)(h:InV w v inp):
  Ret Tryz.prog 19 [v] w λu w'=>∃ GA gc B SA sc kf pf,u=.tuple #[.agg (grC GA gc n (vss.map Xt)).toArray,.slice B n n,.slice SA sizes.length sc,.bool true]/\GrV w' GA gc n (vss.map Xt)/\w'.ownsRow w.heap.size 66 3 (.slice B n n) n (Qo n (Zq kf pf))/\Yd n (vss.map Xt) (Zc perm f) kf pf/\w'.ownsRow w.heap.size 3 1 (.slice SA sizes.length sc) sizes.length (Jb (nz sizes))/\Ext w w':=by
 have d0:=h;obtain⟨cs,rfl,vd,vp,va,rfl,hD,hP,c2⟩:=h;obtain⟨ts,A,c,bf,rfl,da,d9,hR,ck⟩:=id c2;obtain⟨DA,dc,rfl,_⟩:=id hD;obtain⟨PA,pc,rfl,d8,d7,cc⟩:=id hP;have bq:=hC.n32;have df:=hC.pok.fn;have br:inp.ats.length=ts.length:=by rw[bf,List.length_map]
 have az:vss.length=ts.length:=by have:=congrArg List.length hC.ev;simp only[List.length_map]at this;omega
 have ce:sizes.length=ts.length:=by rw[<-hC.es,List.length_map,br]
 have h5:ts.length<=5:=by have:=hC.five;omega
 refine Jz Tryz.func19 Tryz.ntmps19 rfl kr rfl ?_;refine ρ ?_;refine bx ?_;intro w1 b1 bm dg cu;refine ρ ?_;refine alc Jql ?_;intro w3 b2 bj cj bd;have ao:=cu.ext bj;have G:=bm.trans bj;have co:OX 22 1 NtC (λq=>w3.heap.size<=q) w3 w3.heap.size (.slice none 0 0) ([]:List (List Nat)):=⟨[],rfl,Xr _ _ _ _,λp hp=>by cases hp⟩;have cm:w3.ownsRow w3.heap.size 3 1 (.slice none 0 0) 0 (Jb (nz [])):=Xr _ _ _ _;refine ρ ?_;refine Xf (fun (k:Nat) (vs vz:Value)=>[(1,.pointer (some ⟨b1,0,none⟩)),(2,.pointer (some ⟨b2,0,none⟩)),(6,vs),(7,vz),(8,.int .i64 (k:Int))])
  (λk vs vz w'=>k<=ts.length/\Ext w3 w'/\OX 22 1 NtC (λq=>w3.heap.size<=q) w' w3.heap.size vs (vss.take k)/\w'.ownsRow w3.heap.size 3 1 vz k (Jb (nz (sizes.take k)))) (λk _ _=>ts.length-k) 0 (.slice none 0 0) (.slice none 0 0) sB
  ⟨Nat.zero_le _,Ext.refl _,by rw[List.take_zero];exact co,by rw[List.take_zero];exact cm⟩ ?_
 rintro k vs vz w6 ⟨hk,O,aa,ae⟩;have a3:=G.trans O;have Z:=ao.ext O;obtain⟨SA,sc,rfl,cb,ay⟩:=aa.form;obtain⟨ZA,zc,rfl,d3,bi⟩:=Jv ae;have bn:(vss.take k).length=k:=by rw[List.length_take];omega
 rw[bn]at aa cb ay ⊢;refine ρ ?_;refine ld (Z.at (i:=4) rfl) ?_;refine ρ ?_;refine ci (λh=>?_) (λh=>?_)
 .have lk:k<ts.length:=by have:=oT h;omega
  clear h;have bh:k<vss.length:=om
  have bg:k<sizes.length:=om
  have hp:=ck _ (Kr rfl lk);have bs:∀ j u,(ts.getD k ta0).1.cells[j]?=some u->w6.cell? ((adr A (k*3)).add j)=some u:=λj u hu=>Kc (hR.ext a3) rfl lk hu;have ad:(ts.getD k ta0).2.vars=nz (vss.getD k []):=by
   have e1:(inp.ats.map (·.vars))[k]?=(vss.map nz)[k]?:=by rw[hC.ev]
   rw[bf]at e1;simpa [List.getElem?_eq_getElem lk,List.getElem?_eq_getElem bh,List.getD] using e1
  have b4:(ts.getD k ta0).2.rows.length=sizes.getD k 0:=by
   have e1:(inp.ats.map λa=>a.rows.length)[k]?=sizes[k]?:=by rw[hC.es]
   rw[bf]at e1;simpa [List.getElem?_eq_getElem lk,List.getElem?_eq_getElem bg,List.getD] using e1
  generalize hq:ts.getD k ta0=q at hp bs ad b4
  obtain⟨⟨t1,t2,t3⟩,a⟩:=q;simp only at ad b4;obtain⟨⟨QA,qc,c6,d6,d5,d4⟩,c5,ac⟩:=id hp;simp only at c6 c5;obtain⟨aq,PG,au,dh,c4,_⟩:=id ac;simp only at c4;subst c6;subst c5;subst c4;refine ρ ?_;refine ld (Z.at (i:=4) rfl) ?_;refine ρ ?_;refine ixq 3 k (hR.ext a3) lk ?_;refine ρ ?_;refine ld (bs 0 _ rfl) ?_;refine ρ ?_;refine bsl (Qvc _ _ _) ?_;intro w9 dj ax cz c1;have y:=ax;have a5:=O.trans y;have cp:∀ u,Ext w3 u->IntsV u (.slice QA a.vars.length qc) (nz (vss.getD k [])):=λu hu=>by
   have:=(hp.ext (G.trans hu)).1;rw[ad]at this;rwa [ad]
  have ak:=aa.ext NtC.sta y;obtain⟨_,_,bt⟩:=id ak.own;have ai:=Jh ae y;refine ρ ?_;refine apX EIs NtC.sta ak c1 rfl (λu hu=>by rw[List.mem_singleton.1 hu];rfl) ⟨_,rfl,Off.old cp a5 λq hq=>hq⟩ (λg hg=>(ay g hg).1) om (by decide) a5.size ?_;intro c8 a1 ba ah _;have D:Ext w3 a1:=Ja a5 ah λg eg=>(ay g eg).1;have b6:=Qj ai (GrN.by (N:=λq=>(Value.slice SA k sc).ownBlock=some q) ah λq e=>e) λg eg e=>Kq bt ai kr e eg;have be:=ao.ext D;have b3:∀ j u,(V3.cells ⟨.slice QA a.vars.length qc,.int .i64 (a.ar:Int),.slice PG aq.length au⟩)[j]?=some u->a1.cell? ((adr A (k*3)).add j)=some u:=λj u hu=>Kc (hR.ext (G.trans D)) rfl lk (by rw[hq];exact hu);refine ρ ?_;refine ld (be.at (i:=4) rfl) ?_;refine ρ ?_;refine ixq 3 k (hR.ext (G.trans D)) lk ?_;refine ρ ?_;refine lds (cs:=[.int .i64 (a.ar:Int),.slice PG aq.length au]) (λj u hu=>by rw[Jvf];exact b3 (1+j) u (by rw[Nat.add_comm];exact hu)) ?_
  have bu:RelV a1 (.agg #[.int .i64 (a.ar:Int),.slice PG aq.length au]) a.ar a.rows:=(hp.ext (G.trans D)).rel;refine ρ ?_;refine cl (Gt bu) ?_;rintro u ap ⟨rfl,a7⟩;refine ρ ?_;refine bsl (Jzl _) ?_;intro d2 di bl cy c0;have J:=a7.trans bl;have a6:=D.trans J;have a8:=Jh b6 J;have a9:=ba.ext NtC.sta J;obtain⟨_,_,b7⟩:=id a9.own;refine ρ ?_;refine apb (m':=1) (news:=[.int .i64 (a.rows.length:Int)]) EI a8 (c0.rd (n:=1) rfl) (by simp[Value.oneCell']) (by unfold maxLen;omega) om a6.size ?_;intro c7 d1 b5 af _;have b8:=a9.gr NtC.sta (GrN.by (N:=λq=>(Value.slice ZA k zc).ownBlock=some q) af λq e=>e) λq e=>⟨(bi q e).1,λe'=>Kq a8 b7 kr e e'⟩;have cx:vss.take (k+1)=vss.take k++[vss.getD k []]:=Qr [] bh;have cw:Jb (nz (sizes.take (k+1)))=Jb (nz (sizes.take k))++[.int .i64 (a.rows.length:Int)]:=by
   rw[Qr 0 bg,b4];simp[Jb,nz]
  refine ρ ?_;exact Qn (k+1) c8 c7 sO ⟨lk,Ja a6 af λg eg=>(bi g eg).1,by rw[cx];exact b8,by rw[cw];exact b5⟩ om
 have cg:k=ts.length:=by have:=oF h;omega
 subst cg;have db:ts.length=vss.length:=az.symm;rw[<-az,List.take_length]at aa;rw[<-ce,List.take_length]at ae;have cn:=aa.gx (N':=Nn) NtC.sta om λk hk=>hk.elim;refine ρ ?_;refine ld (Z.at (i:=0) rfl) ?_;rw[hC.en,<-az];refine ρ ?_;refine cl (Qxl cn bq om hC.vlt) ?_;rintro u w7 ⟨GA,gc,rfl,hG,ca⟩;refine ρ ?_;refine alc Jql ?_;intro w8 b9 c9 ch cr;refine ρ ?_;refine stW cr ?_;intro w9 am de ax;have a4:Ext w7 w9:=ax w7 c9 ch;have y:=ca.trans a4;have an:=Z.ext y;have bp:inp.perm.length=perm.length:=by rw[hC.ep,nzl]
 have bo:Rd w 1 PA perm.length (Jb (nz perm)):=by rw[<-bp,<-hC.ep];exact cc
 refine ρ ?_;refine ldW am ?_;refine ρ ?_;refine ld (an.at (i:=1) rfl) ?_;rw[hC.ef];refine ρ ?_;refine ld (an.at (i:=3) rfl) ?_;rw[bp];refine ρ ?_;have a2:=a3.trans y;refine cl (Qzx (pc:=pc) (hG.ext a4) hC.pok (bo.ext a2)) ?_;rintro u a1 ⟨U,B,kf,pf,rfl,bz,cq⟩;refine ρ ?_;have aw:=a2.trans U;have bb:=am.ext U;refine ldW bb ?_;refine ρ ?_;have ab:=(bd.ext O).ext (y.trans U);refine stW ab ?_;intro ap bc ag a7;have av:Ext w ap:=a7 w aw (nL bm.size cj);have bw:GrN (λk=>k=b2) a1 ap:=GrN.by ag λk hk=>by injection hk with hk;exact hk.symm
 have aj:=Jh ae (y.trans U);refine ρ ?_;have cd:sizes.length=vss.length:=om
 refine finC4 bc ⟨GA,gc,B,ZA,zc,kf,pf,by rw[cd],?_,?_,cq,?_,av⟩
 .refine((hG.ext a4).ext U).off ab (λu hu x e=>?_) ag;simp only[List.mem_cons,List.not_mem_nil,or_false]at hu;rcases hu with rfl|rfl<;>cases e
 .have h1:=Qj bz bw λg eg e=>by
   obtain⟨_,_,_,_,hf⟩:=Jv bz;have:=(hf g eg).1;have:=bd.lt;have:=(O.trans y).size;omega
  exact Kj h1 a2.size
 have h1:=Qj aj bw λg eg e=>by
  have h2:=bd.lt;obtain⟨_,_,_,_,hf⟩:=Jv aj;have:=(hf g eg).1;omega
 have h2:=Kj h1 G.size;exact h2
open Go.RowKit Pl Go.Wk Bl Nw
variable {c n:Nat}{v:Value}{w:World}
theorem Qpg(hv:NatV w v n)(hs:(Jj n).length<=1000): Ret Tryz.prog 73 [v] w λr w'=>(∃ A c,r=.slice A (Jj n).length c/\w'.ownsRow w.heap.size 63 1 r (Jj n).length (Nc (Jj n)))/\Ext w w':=by
 refine Jz Tryz.func73 Tryz.ntmps73 rfl kr rfl ?_;refine ρ ?_;refine cl (Za hv) ?_;rintro j w' ⟨⟨A,rfl,y⟩,rfl⟩;refine ρ ?_;refine cl (Jwz y (Jzr _) om) ?_;rintro j w1 ⟨i,u⟩;obtain⟨D,B,rfl,J,G⟩:=Jv i;refine ρ ?_;exact Jq ⟨⟨D,B,rfl,i⟩,u⟩
theorem Qgp{A:Option Addr}(w:World): Ret Tryz.prog 75 [.slice A 1 c] w λu w'=>w'=w:=by
 refine Jz Tryz.func75 Tryz.ntmps75 rfl kr rfl ?_;refine ρ ?_;refine Js (fun (_:Nat)=>[(3,.int .i64 ((1:Nat)-1:Int)),(2,.int .i64 0)]) (λ_ w'=>w'=w) (λ_=>0) 0 sB rfl ?_;rintro _ _ rfl;refine ρ ?_;exact Yx rfl
theorem EU8: ElT Tryz.prog 74 5 1 1 (.int .u8 0):=⟨Tryz.underlying74,info_parts kr,rfl,by decide⟩
theorem bs1By(z:Int)(w:World): (Instr.buildSlice 74 1 #[(0,.int .u8 z)]).run Tryz.prog w=.ok (.slice (some ⟨w.heap.size,0,none⟩) 1 1) (w.alloc (.cells [.int .u8 z].toArray 5)):=kr
theorem Qpc(hv:NatV w v 8): Ret Tryz.prog 37 [v] w λr w'=>r=.string ⟨#[56]⟩/\Ext w w':=by
 have el:Jj 8=[8]:=Jgw (by decide) (by decide);refine Jz Tryz.func37 Tryz.ntmps37 rfl kr rfl ?_;refine ρ ?_;refine cl (Qpg hv (by rw[el];decide)) ?_;rintro u w1 ⟨⟨A,c,rfl,ho⟩,a2⟩;rw[el]at ho ⊢;refine ρ ?_;refine Xf (fun (j:Nat) (y:Option Addr×Nat) (z:Nat)=>[(3,.slice A (1-j) z),(4,.slice y.1 j y.2)])
  (λj y z w'=>(j=0/\y=(none,0)/\z=c/\w'=w1)∨(j=1/\Ext w w'/\Rd w' 1 y.1 1 (Bc [56]))) (λj _ _=>1-j) 0 (none,0) c sB (.inl ⟨rfl,rfl,rfl,rfl⟩) ?_
 rintro j y z w2 (⟨rfl,rfl,rfl,rfl⟩|⟨rfl,a1,hr⟩)
 .obtain⟨_,_,e0,U,a5⟩:=Jv ho;injection e0 with _ _ e0
  subst e0;have U:1<=z:=U;refine ρ ?_;refine cl (Qkd (A:=A) (L:=1) (c:=z) (d:=1000000000) (l:=[8]) rfl (by decide) ho (by decide) (by decide)) ?_;rintro u w3 ⟨rfl,⟨os,J,a4,a6⟩,a7⟩;have a3:val os=0:=by rw[a4];decide
  have e8:val [8] % 1000000000=8:=by decide
  have D:Ext w w3:=Ja a2 a7 λg eg=>(a5 g eg).1;have G:=Gx (A:=A) (l:=os) (c:=z) (by rw[J];exact Rd.own a6) om om;rw[J,a3,limbs_0]at G;rw[e8];refine ρ ?_;refine cl G ?_;rintro u w4 ⟨rfl,rfl⟩;refine ρ ?_;refine Qq (fun (i:Nat) (y:Option Addr×Nat)=>[(5,.int .u32 ((8*(1-i):Nat):Int)),(19,.int .i64 (i:Int)),(3,.slice A 0 0),(4,.slice y.1 i y.2)])
   (λi y w'=>(i=0/\y=(none,0)/\w'=w4)∨(i=1/\Ext w w'/\Rd w' 1 y.1 1 (Bc [56]))) (λi _=>1-i) 0 (none,0) sB (.inl ⟨rfl,rfl,rfl⟩) ?_
  rintro i y w5 (⟨rfl,rfl,rfl⟩|⟨rfl,Z,hr⟩)
  .refine ρ ?_;refine kv 34 (u:=.int .u32 8) rfl ?_;refine kv 5 (u:=.int .u32 8) rfl ?_;refine rem (b:=10) (by decide) ?_;refine kv 35 (show Value.int .u32 (Int.tmod 8 10)=.int .u32 8 from rfl) ?_;refine ρ ?_;refine kv 37 (show Value.int .u8 (IntKind.u8.wrap (IntKind.u32.wrap (48+8)))=.int .u8 56 from rfl) ?_;refine bsl (bs1By 56) ?_;intro w6 b6 B ab a8;refine ρ ?_;refine apb (m':=1) (base:=w.heap.size) (news:=[.int .u8 56]) EU8 (Xr _ _ _ _) (a8.rd (n:=1) rfl) (by simp[Value.oneCell']) (by unfold maxLen;omega) om (D.trans B).size ?_;intro v7 w7 O hg7 a9;obtain⟨BA,bc,rfl,_,aa⟩:=Jv O;refine ρ ?_;refine Ie rfl rfl (by decide) rfl ?_;refine ρ ?_;exact Ju 1 (BA,bc) sO (.inr ⟨rfl,Ja (D.trans B) hg7 (λg eg=>by cases eg),Rd.own O⟩) (by decide)
  refine ρ ?_;exact Qn 1 y 0 sB (.inr ⟨rfl,Z,hr⟩) (by decide)
 refine ρ ?_;refine cl (Qgp w2) ?_;rintro u w3 rfl;refine ρ ?_;refine sb hr ?_;refine ρ ?_;exact Jq ⟨rfl,a1⟩
end Go.Proofs.YtebiphhfkdbpfaaGreatDoor
namespace Go.Proofs.YtebiphhfkdbpfaaGreatDoor
open Go.RowKit Pl Go.Wk Bl Nw
variable {ats:List Atm}{m:List Row}{c n set v:Nat}{pf:Nat->Int}
def nV(n:Int): V:=⟨1,n,⟨#[]⟩⟩
def nR(a b:Int): Row:=[nV a,nV b]
def rw4: List Row:=[nR 1 1,nR 1 2,nR 2 1,nR 2 2]
def v3: List (List Nat):=[[0,1],[1,2],[0,2]]
def rB(v:Nat): Nat:=if v=2 then 8 else 4
abbrev Ij: PR:=⟨false,1,1⟩
abbrev Yw: PR:=⟨false,0,1⟩
theorem es3: v3.map Xt=[3,6,5]:=by decide
theorem bag7: BagB 3 [3,6,5] [4,4,4] 7 8:=by
 have u:∀ q∈[hlf,hlf,hlf],q=hlf:=λq j=>by
  simp only[List.mem_cons,List.not_mem_nil,or_false,or_self]at j;exact j
 refine⟨by decide,by decide,Jpc,216,_,32,32,by decide +kernel,Qcf,(λq j=>by rw[u q j];decide),(λq j=>by rw[u q j];decide +kernel),(λi hi=>?_),(λq j=>by rw[u q j];decide +kernel),by rw[Jkb];decide,by rw[Jkb];decide,by rw[Jkb];exact Qcd,by decide,by decide,by rw[Jkb,Jpb];decide,Qkf,λx y=>?_⟩
 .have hi:i<=3:=hi;rcases(show i=0∨i=1∨i=2∨i=3 by omega) with rfl|rfl|rfl|rfl<;>decide +kernel
 rw[Jkb,Jpb]at y;exact Jfk y ⟨by decide,by decide⟩
theorem Jks: dnm [Ij,Yw,Yw]=1:=by decide +kernel
theorem Jtw: Vo [Ij,Yw,Yw] [4,4,4] 1=4:=by decide +kernel
theorem Jyr{q:PR}(h:q∈[Ij,Yw,Yw]): q=Ij∨q=Yw:=by
 simp only[List.mem_cons,List.not_mem_nil,or_false,or_self]at h;exact h
theorem Qms: PrOk [Ij,Yw,Yw] [4,4,4] 1 32:=by
 refine⟨by decide,rfl,λq B=>?_,λs j=>?_,λi hi=>?_,λi u G=>?_⟩
 .rcases Jyr B with rfl|rfl
  .exact⟨by decide,by decide,by decide,by decide +kernel,by decide +kernel,by decide +kernel,by decide +kernel,by decide +kernel,by decide +kernel⟩
  exact⟨by decide,by decide,by decide,by decide +kernel,by decide +kernel,by decide +kernel,by decide +kernel,by decide +kernel,by decide +kernel⟩
 .simp only[List.mem_cons,List.not_mem_nil,or_false,or_self]at j;rw[j];decide
 .have hi:i<=3:=hi;rcases(show i=0∨i=1∨i=2∨i=3 by omega) with rfl|rfl|rfl|rfl<;>decide +kernel
 have u:i<3:=u;have D:4^Vr Ij 1<2^32:=by decide +kernel
 have y:4^Vr Yw 1<2^32:=by decide +kernel
 rcases(show i=0∨i=1∨i=2 by omega) with rfl|rfl|rfl
 .exact D
 .exact y
 exact y
theorem bagS(h0:set<2^3)(h1:set≠0)(hf:((Jy 3 set).length+(Jl [3,6,5] set [3,6,5].length).length)^(Jl [3,6,5] set [3,6,5].length).length<=125)(hcv:cvr 125 3 [3,6,5] set=some ⟨[Ij,Yw,Yw],[Ij,Yw,Yw],⟨false,1,1⟩⟩): BagB 3 [3,6,5] [4,4,4] set 4:=by
 refine⟨h0,h1,λv y B=>?_,125,_,32,32,hf,hcv,(λq j=>?_),(λq j=>?_),(λi hi=>?_),(λq j=>?_),by rw[Jks];decide,by rw[Jks];decide,by rw[Jks];exact Qms,by decide,by decide,by rw[Jks,Jtw];decide,Qkf,λx u=>?_⟩
 .exact Jpc v y (by rcases(show v=0∨v=1∨v=2 by omega) with rfl|rfl|rfl<;>decide)
 .rcases Jyr j with rfl|rfl<;>decide
 .rcases Jyr j with rfl|rfl<;>decide +kernel
 .have hi:i<=3:=hi;rcases(show i=0∨i=1∨i=2∨i=3 by omega) with rfl|rfl|rfl|rfl<;>decide +kernel
 .rcases Jyr j with rfl|rfl<;>decide +kernel
 rw[Jks,Jtw]at u;exact Jfk u ⟨by decide,by decide⟩
theorem Jhc{kf:Nat->Nat}(h:Yd 3 [3,6,5] [2,1,0] kf pf)(hv:v<3)(hc:c<4294967296)(hk:∀ x,x<32->Vx (nb0 3 [3,6,5]) [2,1,0] v x=c.testBit x): kf v=c:=by
 obtain⟨u,j,_⟩:=h v hv;refine Nat.eq_of_testBit_eq λx=>?_;by_cases hx:x<32
 .rw[j,hk x hx]
 have i:4294967296<=2^x:=Nat.pow_le_pow_right (n:=2) (by decide) (show 32<=x by omega);rw[Nat.testBit_lt_two_pow (nM u i),Nat.testBit_lt_two_pow (nM hc i)]
theorem Xjj{kf:Nat->Nat}(h:Yd 3 (v3.map Xt) (Zc [] 3) kf pf)(v:Nat)(hv:v<3): BagB 3 (v3.map Xt) [4,4,4] (kf v ||| 2^v) (rB v):=by
 rw[es3]at h ⊢;have h:Yd 3 [3,6,5] [2,1,0] kf pf:=h;rcases(show v=0∨v=1∨v=2 by omega) with rfl|rfl|rfl
 .rw[Jhc h (by decide) (c:=0) (by decide) (by decide +kernel)];exact bagS (by decide) (by decide) (by decide +kernel) (by decide +kernel)
 .rw[Jhc h (by decide) (c:=1) (by decide) (by decide +kernel)];exact bagS (by decide) (by decide) (by decide +kernel) (by decide +kernel)
 rw[Jhc h (by decide) (c:=3) (by decide) (by decide +kernel)];exact bag7
theorem Qfl: Lt [] rw4:=by unfold Lt;decide +kernel
theorem Xzx: Lt [] [[nV 1],[nV 2]]:=by unfold Lt;decide +kernel
theorem Jyf(h:Zn [] rw4 m): m=rw4:=Jqx h.1 Qfl h.2
theorem Xxt(hc:c<2)(h:Zn [] (rw4.map (pmR [c])) m): m=[[nV 1],[nV 2]]:=by
 refine Jqx h.1 Xzx λx=>(h.2 x).trans ?_;have j:rw4.map (pmR [0])=[[nV 1],[nV 1],[nV 2],[nV 2]]:=rfl;have i:rw4.map (pmR [1])=[[nV 1],[nV 2],[nV 1],[nV 2]]:=rfl;rcases(show c=0∨c=1 by omega) with rfl|rfl
 .rw[j];simp only[List.mem_cons,List.not_mem_nil,or_false];grind
 rw[i];simp only[List.mem_cons,List.not_mem_nil,or_false];grind
theorem Jgh(h:n<4294967296): Nb n:=nM h (Nat.le_self_pow (show bK≠0 by rw[Jmh];decide) _)
theorem hg2: hgt 2=2:=by decide +kernel
def c3: Cse:=⟨3,3,[false,false,false],[],[[0,1],[1,2],[0,2]],[rw4,rw4,rw4]⟩
theorem asc2{p q:Int}(h:p<q): Ir [p,q]:=λj u i=>by
 have i:j<2:=i;obtain rfl:j=1:=om
 exact h
theorem Jht(hl:ats.length=3)(h:∀ i,i<3->MkA (ats.getD i a0) (c3.vs.getD i []) (c3.rss.getD i [])): ∃ a b c,ats=[a,b,c]/\MkA a [0,1] rw4/\MkA b [1,2] rw4/\MkA c [0,2] rw4:=by
 match ats,hl with
 | [a,b,c],_=>exact⟨a,b,c,rfl,h 0 (by decide),h 1 (by decide),h 2 (by decide)⟩
theorem Qzr(hl:ats.length=3)(h:∀ i,i<3->MkA (ats.getD i a0) (c3.vs.getD i []) (c3.rss.getD i [])): Gd ⟨3,3,[false,false,false],[],ats⟩:=by
 obtain⟨a,b,c,rfl,y,D,G⟩:=Jht hl h;have u:∀ {a:Atm} {p q:Int},MkA a [p,q] rw4->p<q->0<=p->q<3->Gg 3 a:=fun {a p q} h h1 h2 h3=>by
  refine⟨by rw[h.vars];exact asc2 h1,λv j=>?_,by rw[h.vars,h.ar]⟩;rw[h.vars]at j;simp only[List.mem_cons,List.not_mem_nil,or_false]at j;rcases j with rfl|rfl<;>omega
 refine⟨(show(0:Int)<=3 by decide),(show(3:Int)<=32 by decide),(show(0:Int)<=3 by decide),(show(3:Int)<=3 by decide),rfl,rfl,(λv j=>by cases j),List.nodup_nil,(show(0:Int)<=3 by decide),(show(3:Int)<=32 by decide),by simp,λx B=>?_,λv j=>?_⟩
 .simp only[List.mem_cons,List.not_mem_nil,or_false]at B;rcases B with rfl|rfl|rfl
  .exact u y (by decide) (by decide) (by decide)
  .exact u D (by decide) (by decide) (by decide)
  exact u G (by decide) (by decide) (by decide)
 have j:(v:Int)<3:=j;rcases(show v=0∨v=1∨v=2 by omega) with rfl|rfl|rfl
 .exact⟨a,by simp,by rw[y.vars];simp⟩
 .exact⟨a,by simp,by rw[y.vars];simp⟩
 exact⟨b,by simp,by rw[D.vars];simp⟩
theorem Jhs{a:Atm}{zs:List Int}{x:Int}(h:MkA a zs rw4)(h2:zs.length=2)(ha:Ir zs): CntA (λ_=>2) x a:=by
 have j:a.rows=rw4:=Jyf (h.set (by decide));refine⟨by rw[h.vars];exact ha,by rw[h.vars,h.ar],λr i=>?_,by rw[j];decide,λB m y D u=>?_⟩
 .rw[h.ar];exact(h.ok r (h.sub r i)).1
 rw[j]at u;rw[Xxt (by rw[h.vars,h2]at y;exact y) u];rfl
theorem Xjh(hl:ats.length=3)(h:∀ i,i<3->MkA (ats.getD i a0) (c3.vs.getD i []) (c3.rss.getD i [])): CostI 3 3 [] v3 [4,4,4] (λ_ _=>2) rB ⟨3,3,[false,false,false],[],ats⟩:=by
 have j:=Qzr hl h;obtain⟨a,b,c,rfl,Z,U,O⟩:=Jht hl h;have J:a.rows=rw4:=Jyf (Z.set (by decide));have G:b.rows=rw4:=Jyf (U.set (by decide));have D:c.rows=rw4:=Jyf (O.set (by decide));have er:(List.range 3).map rB=[4,4,8]:=rfl;refine⟨j,rfl,rfl,rfl,?_,?_,by simp,⟨Nat.le_refl _,rfl,(λv B=>by cases B),List.nodup_nil⟩,by decide,by decide,λx y a' u=>?_,λkf pf h v B=>Xjj h v B,?_,λi hi=>?_,λx y=>?_⟩
 .show[a.vars,b.vars,c.vars]=_;rw[Z.vars,U.vars,O.vars];rfl
 .show[a.rows.length,b.rows.length,c.rows.length]=_;rw[J,G,D];rfl
 .simp only[List.mem_cons,List.not_mem_nil,or_false]at u;rcases u with rfl|rfl|rfl
  .exact Jhs Z rfl (asc2 (by decide))
  .exact Jhs U rfl (asc2 (by decide))
  exact Jhs O rfl (asc2 (by decide))
 .rw[er];exact Jgh (by decide)
 .rw[er];rcases(show i=0∨i=1∨i=2∨i=3 by omega) with rfl|rfl|rfl|rfl<;>exact Jgh (by decide)
 rw[er]at y;simp only[List.mem_cons,List.not_mem_nil,or_false]at y;rcases y with rfl|rfl|rfl<;>exact Jgh (by decide)
theorem Xjg(hl:ats.length=3)(h:∀ i,i<3->MkA (ats.getD i a0) (c3.vs.getD i []) (c3.rss.getD i [])): Jdp 3 (λ_ _=>2) ⟨3,3,[false,false,false],[],ats⟩=6:=by
 obtain⟨a,b,c,rfl,y,u,j⟩:=Jht hl h;have D:max (Xx (λ_=>2) ((0:Nat):Int) [a,b,c]) 0=2:=by simp[Xx,Iy,y.vars,u.vars,j.vars];rfl
 have f1:max (Xx (λ_=>2) ((1:Nat):Int) [a,b,c]) 0=2:=by simp[Xx,Iy,y.vars,u.vars,j.vars];rfl
 have B:max (Xx (λ_=>2) ((2:Nat):Int) [a,b,c]) 0=2:=by simp[Xx,Iy,y.vars,u.vars,j.vars];rfl
 have e:(List.range 3).map (λx:Nat=>max (Xx (λ_=>2) (x:Int) [a,b,c]) 0)=[2,2,2]:=by
  show[max (Xx (λ_=>2) ((0:Nat):Int) [a,b,c]) 0,max (Xx (λ_=>2) ((1:Nat):Int) [a,b,c]) 0,max (Xx (λ_=>2) ((2:Nat):Int) [a,b,c]) 0]=_;rw[D,f1,B]
 show hgS ((List.range 3).map (λx:Nat=>max (Xx (λ_=>2) (x:Int) [a,b,c]) 0))=6;rw[e];show[hgt 2,hgt 2,hgt 2].sum=6;rw[hg2];rfl
open Go.RowKit Pl Go.Wk Bl Nw
attribute [local irreducible] WC WL QX WD WDB WP WN WG WH
variable {B0 b:Nat}{w:World}
theorem Xkq(n:Int)(w:World): (Instr.build 102 #[(0,.int .i64 1),(1,.int .i64 n)]).run Tryz.prog w=.ok (nV n).val w:=kr
theorem Iq(n:Int)(w:World): Ret Tryz.prog 36 [.int .i64 n] w λx w'=>x=(nV n).val/\Ext w w':=by
 refine Jz Tryz.func36 Tryz.ntmps36 rfl kr rfl ?_;refine ρ ?_;refine alc Jzs ?_;intro w1 b j B y;refine ρ ?_;refine bld (Xkq n _) ?_;refine ρ ?_;refine stb y (cs':=(nV n).cells) ?_ (V.one _);intro w2 u hg2 i;refine ρ ?_;exact Vp u ⟨rfl,i w j B⟩
theorem bs2V(a b:V)(w:World): (Instr.buildSlice 85 2 #[(0,a.val),(1,b.val)]).run Tryz.prog w=.ok (.slice (some ⟨w.heap.size,0,none⟩) 2 2) (w.alloc (.cells (Qw [a,b]).toArray 102)):=kr
theorem bs4R(A1 A2 A3 A4:Option Addr)(n1 n2 n3 n4 c1 c2 c3 c4:Nat)(w:World): (Instr.buildSlice 78 4 #[(0,.slice A1 n1 c1),(1,.slice A2 n2 c2),(2,.slice A3 n3 c3),(3,.slice A4 n4 c4)]).run Tryz.prog w=.ok (.slice (some ⟨w.heap.size,0,none⟩) 4 4) (w.alloc (.cells [.slice A1 n1 c1,.slice A2 n2 c2,.slice A3 n3 c3,.slice A4 n4 c4].toArray 85)):=kr
theorem bs3RR(A1 A2 A3:Option Addr)(n1 n2 n3 c1 c2 c3:Nat)(w:World): (Instr.buildSlice 29 3 #[(0,.slice A1 n1 c1),(1,.slice A2 n2 c2),(2,.slice A3 n3 c3)]).run Tryz.prog w=.ok (.slice (some ⟨w.heap.size,0,none⟩) 3 3) (w.alloc (.cells [.slice A1 n1 c1,.slice A2 n2 c2,.slice A3 n3 c3].toArray 78)):=kr
theorem bs3II(A1 A2 A3:Option Addr)(n1 n2 n3 c1 c2 c3:Nat)(w:World): (Instr.buildSlice 28 3 #[(0,.slice A1 n1 c1),(1,.slice A2 n2 c2),(2,.slice A3 n3 c3)]).run Tryz.prog w=.ok (.slice (some ⟨w.heap.size,0,none⟩) 3 3) (w.alloc (.cells [.slice A1 n1 c1,.slice A2 n2 c2,.slice A3 n3 c3].toArray 22)):=kr
theorem bs2I(a b:Int)(w:World): (Instr.buildSlice 22 2 #[(0,.int .i64 a),(1,.int .i64 b)]).run Tryz.prog w=.ok (.slice (some ⟨w.heap.size,0,none⟩) 2 2) (w.alloc (.cells [Value.int .i64 a,.int .i64 b].toArray 3)):=kr
theorem Xkx(A B C:Option Addr)(a b c a' b' c':Nat)(w:World): (Instr.build 31 #[(0,.int .i64 3),(1,.int .i64 3),(2,.slice A a a'),(4,.slice B b b'),(5,.slice C c c')]).run Tryz.prog w=.ok (.agg #[.int .i64 3,.int .i64 3,.slice A a a',.slice none 0 0,.slice B b b',.slice C c c']) w:=kr
theorem Jbj{r:Row}(h:Blk w b 102 (Qw r))(hl:r.length<=1100000): RowV w (.slice (some ⟨b,0,none⟩) r.length r.length) r:=⟨some ⟨b,0,none⟩,r.length,rfl,Nat.le_refl _,hl,h.rd (Jsb r)⟩
theorem Qrm(ps:List Pr)(h:Blk w b 85 (ps.map (·.1)))(hr:∀ p∈ps,RowV w p.1 p.2)(hl:ps.length<=1100000): RowsV w (.slice (some ⟨b,0,none⟩) ps.length ps.length) (ps.map (·.2)):=⟨ps,some ⟨b,0,none⟩,ps.length,rfl,rfl,Nat.le_refl _,hl,h.rd (by simp),hr⟩
theorem hg7: hgt 7=4:=by decide +kernel
theorem hg6: hgt 6=3:=by decide +kernel
theorem few3: FewP c3:=⟨by decide,by decide,.inl (by decide),by decide,by decide,by decide,by decide,by decide⟩
theorem mks3: MkS c3:=by
 have j:∀ r∈rw4,r.length=2/\r.all Xg=true:=by decide +kernel
 refine⟨rfl,λi hi=>?_,λi hi=>?_,λi hi=>?_⟩<;>(have hi:i<3:=hi;rcases(show i=0∨i=1∨i=2 by omega) with rfl|rfl|rfl)
 .decide
 .decide
 .decide
 .exact j
 .exact j
 .exact j
 .decide
 .decide
 decide
theorem Xwt(hT:FB B0 w): Ret Tryz.prog 10 [] w λu w'=>u=.bool true/\Ext w w':=by
 refine Jz Tryz.func10 Tryz.ntmps10 rfl kr rfl ?_;refine ρ ?_;refine cl (Iq 1 _) ?_;rintro _ w1 ⟨rfl,bz⟩;refine ρ ?_;refine cl (Iq 1 _) ?_;rintro _ w2 ⟨rfl,bw⟩;refine ρ ?_;refine bsl (bs2V _ _) ?_;intro w3 b3 bu di c6;refine ρ ?_;refine cl (Iq 1 _) ?_;rintro _ w4 ⟨rfl,bt⟩;refine ρ ?_;refine cl (Iq 2 _) ?_;rintro _ w5 ⟨rfl,bs⟩;refine ρ ?_;refine bsl (bs2V _ _) ?_;intro w6 b6 br dh c5;refine ρ ?_;refine cl (Iq 2 _) ?_;rintro _ w7 ⟨rfl,bq⟩;refine ρ ?_;refine cl (Iq 1 _) ?_;rintro _ w8 ⟨rfl,bp⟩;refine ρ ?_;refine bsl (bs2V _ _) ?_;intro w9 b9 bo dg c4;refine ρ ?_;refine cl (Iq 2 _) ?_;rintro _ df ⟨rfl,b7⟩;refine ρ ?_;refine cl (Iq 2 _) ?_;rintro _ de ⟨rfl,b5⟩;refine ρ ?_;refine bsl (bs2V _ _) ?_;intro db co b1 d0 bf;refine ρ ?_;refine bsl (bs4R _ _ _ _ _ _ _ _ _ _ _ _) ?_;intro da cn az cz be;refine ρ ?_;refine mkn EB 3 (by decide) (by unfold maxLen;decide) ?_
 intro d9 a5 ay a1 _;have e0:(madeCells (Value.bool false).cells (3*1)).toList=[false,false,false].map Value.bool:=kr
 rw[e0]at a1;refine ρ ?_;refine bsl (bs2I _ _) ?_;intro d8 cm ax cy bd;refine ρ ?_;refine bsl (bs2I _ _) ?_;intro d7 ck aw cx bc;refine ρ ?_;refine bsl (bs2I _ _) ?_;intro d6 cj av cw bb;refine ρ ?_;refine bsl (bs3II _ _ _ _ _ _ _ _ _) ?_;intro d5 a4 au cu ba;refine ρ ?_;refine bsl (bs3RR _ _ _ _ _ _ _ _ _) ?_;intro ag a3 ar cr b8;refine ρ ?_;refine bld (Xkx _ _ _ _ _ _ _ _ _ _) ?_;have a7:=ar;have a8:=au.trans a7;have a9:=av.trans a8;have aa:=aw.trans a9;have ab:=ax.trans aa;have ad:=ay.trans ab;have ae:=az.trans ad;have bi:=b1.trans ae;have bj:=b5.trans bi;have y9:=b7.trans bj;have y8:=bo.trans y9;have y7:=bp.trans y8;have y6:=bq.trans y7;have y5:=br.trans y6;have y4:=bs.trans y5;have y3:=bt.trans y4;have y2:=bu.trans y3;have y1:=bw.trans y2;have y0:=bz.trans y1;have ca:RowsV ag (.slice (some ⟨cn,0,none⟩) 4 4) rw4:=by
  refine Qrm [(.slice (some ⟨b3,0,none⟩) 2 2,nR 1 1),(.slice (some ⟨b6,0,none⟩) 2 2,nR 1 2),(.slice (some ⟨b9,0,none⟩) 2 2,nR 2 1),(.slice (some ⟨co,0,none⟩) 2 2,nR 2 2)] (be.ext ad) (λp hp=>?_) (by simp);simp only[List.mem_cons,List.not_mem_nil,or_false]at hp;rcases hp with rfl|rfl|rfl|rfl
  .exact Jbj (r:=nR 1 1) (c6.ext y3) (by decide)
  .exact Jbj (r:=nR 1 2) (c5.ext y6) (by decide)
  .exact Jbj (r:=nR 2 1) (c4.ext y9) (by decide)
  exact Jbj (r:=nR 2 2) (bf.ext ae) (by decide)
 have hC:CseV ag [.int .i64 3,.int .i64 3,.slice a5 3 3,.slice none 0 0,.slice (some ⟨a4,0,none⟩) 3 3,.slice (some ⟨a3,0,none⟩) 3 3] c3:=by
  refine⟨a5,3,none,0,some ⟨a4,0,none⟩,3,some ⟨a3,0,none⟩,3,rfl,⟨a5,3,rfl,by decide,Rd.own (Jh a1 ab)⟩,⟨none,0,rfl,Nat.le_refl _,Rd.nil⟩,⟨some ⟨a4,0,none⟩,3,_,rfl,by decide,(ba.ext a7).rd rfl,λi hi=>?_⟩,⟨some ⟨a3,0,none⟩,3,_,rfl,by decide,b8.rd rfl,λi hi=>?_⟩,by decide,by decide⟩
  .have hi:i<3:=hi;rcases(show i=0∨i=1∨i=2 by omega) with rfl|rfl|rfl
   .exact⟨_,rfl,some ⟨cm,0,none⟩,2,rfl,by decide,(bd.ext aa).rd rfl⟩
   .exact⟨_,rfl,some ⟨ck,0,none⟩,2,rfl,by decide,(bc.ext a9).rd rfl⟩
   exact⟨_,rfl,some ⟨cj,0,none⟩,2,rfl,by decide,(bb.ext a8).rd rfl⟩
  have hi:i<3:=hi;rcases(show i=0∨i=1∨i=2 by omega) with rfl|rfl|rfl<;>exact⟨_,rfl,ca.m⟩
 refine ρ ?_;refine cl (Qjx hC few3) ?_;rintro u a2 ⟨aq,dA,pA,aA,dc,pc,ac,an,ok,rfl,cd,cb,c2,c7⟩;obtain rfl:ok=true:=c7 mks3 λats hl h=>Qzr hl h;obtain⟨_,ats,hl,hG,hA,_⟩:=c2 rfl;have hl:ats.length=3:=hl;have hA:∀ i,i<3->MkA (ats.getD i a0) (c3.vs.getD i []) (c3.rss.getD i []):=hA;have cc:InV a2 (.agg #[.int .i64 3,.int .i64 3,.slice dA 3 dc,.slice pA 0 pc,.slice aA an ac]) ⟨3,3,[false,false,false],[],ats⟩:=⟨_,rfl,_,_,_,rfl,cd,cb,Jzp hG⟩;have a6:=y0.trans aq;show WL _ _ _ _ _ ((30,.tuple #[.agg #[.int .i64 3,.int .i64 3,.slice dA 3 dc,.slice pA 0 pc,.slice aA an ac],.bool true])::_) _;refine ρ ?_;refine alc Jqk ?_;intro d4 b2 ap c9 ch;refine ρ ?_;refine stW ch ?_;intro bn bh cq ao;have y:Ext a2 bn:=ao a2 ap c9;refine ρ ?_;refine ldW bh ?_;refine ρ ?_;refine cl (Qkw (hT.ext (a6.trans y)) (Xjh hl hA) (cc.ext y)) ?_;rintro u af ⟨O,us,VS,vn,vc,rfl,ce,hv,am⟩;rw[Xjg hl hA]
 refine ρ ?_;refine alc zEst ?_;intro d3 b4 ak c8 cg;refine ρ ?_;refine stW cg ?_;intro bm bg cp aj;have D:Ext af bm:=aj af ak c8;have B:=a6.trans (y.trans (am.trans D));have J:=ce.ext D;obtain⟨u2,e2,c1⟩:=J.2.2.2 2 (by decide);refine ρ ?_;refine cl (Jls (hT.ext B) 7) ?_;rintro u d2 ⟨rfl,Z⟩;rw[hg7];refine ρ ?_;refine cl (Jls (hT.ext (B.trans Z)) 6) ?_;rintro u bl ⟨rfl,ai⟩;rw[hg6];have j:=Z.trans ai;have U:=bg.ext j;have G:=J.ext j;refine ρ ?_;refine ld (U.at (i:=0) rfl) ?_;refine ρ ?_;refine ld (U.at (i:=2) rfl) ?_;refine ρ ?_;refine ld (U.at (i:=2) rfl) ?_;refine ρ ?_;refine ix 2 (Rd.own G.2.1) (by decide) ?_;refine ρ ?_;refine ld ((Rd.own G.2.1).cell e2) ?_;have c0:NatV bl u2 8:=c1.ext j;refine ρ ?_;refine cl (Qpc c0) ?_;rintro u d1 ⟨rfl,ah⟩;refine ρ ?_;exact Jq ⟨congrArg Value.bool (beq_self_eq_true _),B.trans (j.trans ah)⟩
open Go.RowKit Pl Go.Wk Bl Nw
variable {c:Cse}
theorem divCQ: Gl KQ:=divCL (by unfold KQ;decide)
theorem CseOk.gra{ats:List Atm}(h:CseOk c ats): GraI c.N c.F (toN c.pm) c.vss (szA ats) ⟨c.n,c.f,c.ds,c.pm,ats⟩:=by
 have B:=h.nN;refine⟨B.1,h.fF.1,h.pm.2.symm,?_,rfl,by show ats.length<=5;rw[h.al];exact h.few.v5,h.pm.1,om,λvs j x y=>?_⟩
 .refine List.ext_getElem (by simp[Cse.vss,h.al];rfl) λi G D=>?_;have hi:i<c.m:=by simpa [Cse.vss] using D
  have u:i<ats.length:=by rw[h.al];exact hi
  simp only[List.getElem_map,Cse.vss,List.getElem_range];rw[(h.vars hi).1,<-(h.mka i hi).vars,Qv a0 u]
 obtain⟨i,hi,rfl⟩:=List.mem_map.1 j;exact(h.vars (List.mem_range.1 hi)).2.2.1 x y
theorem Xqx{w:World}{u:Value}(hF:FewP c)(h:MkR w c u True): ∃(dA pA aA:Option Addr) (dc pc ac an:Nat) (ok:Bool),u=.tuple #[.agg #[.int .i64 c.n,.int .i64 c.f,.slice dA c.ds.length dc,.slice pA c.pm.length pc,.slice aA an ac],.bool ok]/\(ok=true->∃ ats:List Atm,an=ats.length/\CseOk c ats/\GV 3 AtG w (.slice aA an ac) ats/\InV w (.agg #[.int .i64 c.n,.int .i64 c.f,.slice dA c.ds.length dc,.slice pA c.pm.length pc,.slice aA an ac]) ⟨c.n,c.f,c.ds,c.pm,ats⟩):=by
 obtain⟨dA,pA,aA,dc,pc,ac,an,ok,rfl,Z,U,j,_⟩:=h;refine⟨dA,pA,aA,dc,pc,ac,an,ok,rfl,λe=>?_⟩;obtain⟨J,ats,B,D,hmk,i⟩:=j e;obtain⟨ps,A',c',e1,e2,O,hm,hr,G⟩:=id D;have y:an=ats.length:=by
  injection e2 with _ e3 _
  rw[e3,e1,List.length_map]
 exact⟨ats,y,⟨hF,J,B,hmk,i trivial⟩,D,⟨_,rfl,_,_,_,rfl,Z,U,Jzp D⟩⟩
open Go.RowKit Pl Go.Wk Bl Nw
theorem Xxf{B0:Nat}{w:World}{cs:List Value}{c:Cse}(hT:FB B0 w)(hC:CseV w cs c):
  Ret Tryz.prog 8 [.agg cs.toArray] w λu w'=>u=.bool true/\Ext w w':=by
 have aw:∀ {w':World},Ext w w'->Ret Tryz.prog 10 [] w' λu c8=>u=.bool true/\Ext w' c8:=λhx=>Xwt (hT.ext hx);obtain⟨e8,e7,dl,dk,dg,df,di,dh,d0,_,_,_,_,d7,d9⟩:=id hC;refine Jz Tryz.func8 Tryz.ntmps8 rfl kr rfl ?_;refine ρ ?_;refine bx ?_;intro w1 b1 bb dz bw;refine ρ ?_;subst d0;refine ldW bw ?_;refine ρ ?_;refine cl (Qtz (hC.ext bb)) ?_;rintro u w2 ⟨b8,bf,rfl,hF,_⟩;have Z:=bb.trans b8;have bt:=bw.ext b8;cases bf with
 | false=>
  refine ρ ?_;refine cl (aw Z) ?_;rintro _ w3 ⟨rfl,aq⟩;refine ρ ?_;exact Jq ⟨rfl,Z.trans aq⟩
 | true=>
  have hF:=hF rfl;refine ρ ?_;refine ldW bt ?_;refine ρ ?_;refine cl (Qjx (hC.ext Z) hF) ?_;rintro u w3 ⟨aq,cu⟩;obtain⟨dA,pA,aA,dc,pc,ac,an,ok,rfl,cj⟩:=Xqx hF cu;have b3:=Z.trans aq;refine ρ ?_;refine alc Jqk ?_;intro w4 b5 cc cq cz;refine ρ ?_;refine stW cz ?_;intro w5 af dx b6;have a2:Ext w3 w5:=b6 w3 cc cq;have D:=b3.trans a2;cases ok with
  | false=>
   refine ρ ?_;refine cl (aw D) ?_;rintro _ w6 ⟨rfl,ah⟩;refine ρ ?_;exact Jq ⟨rfl,D.trans ah⟩
  | true=>
   obtain⟨ats,rfl,hO,cw,bp⟩:=cj rfl;have cr:ats.length=c.m:=hO.al;have e4:=hO.nN.2;obtain⟨b2,dj,bj⟩:=Xwn (n:=c.N) (es:=c.es) (ord:=Zc (toN c.pm) c.F) om hO.elt;refine ρ ?_;refine ldW af ?_;refine ρ ?_;refine cl (Qkw (hT.ext D) (hO.costI divCQ bj) (bp.ext a2)) ?_;rintro u w6 ⟨O,us,VS,vn,vc,rfl,bq,hv,ah⟩;have d3:=D.trans ah;refine ρ ?_;refine alc zEst ?_;intro w7 b7 cb cp cy;refine ρ ?_;refine stW cy ?_;intro w8 bs dw b4;have aj:Ext w6 w8:=b4 w6 cb cp;have a1:=ah.trans aj;have d2:=D.trans a1;refine ρ ?_;refine ldW (af.ext a1) ?_;refine ρ ?_;refine cl (Qtn hO.gra (bp.ext (a2.trans a1))) ?_;rintro u w9 ⟨GA,gc,B,SA,sc,kf,pf,rfl,hG,cx,ad,e2,ca⟩;refine ρ ?_;refine alc Jql ?_;intro de b9 ba bi bu;refine ρ ?_;refine stW bu ?_;intro c7 c4 d8 au;have a5:Ext w9 c7:=au w9 ba bi;have a7:=ca.trans a5;have U:=a1.trans a7;have ap:=D.trans U;have ag:=af.ext U;refine ρ ?_;refine ld (ag.at (i:=0) rfl) ?_
   refine ρ ?_;refine ld (ag.at (i:=4) rfl) ?_;obtain⟨ts,d1,tc,ax,eT,cg,dn,ch,ce⟩:=Jzp (cw);have bc:ts.length=c.m:=by have:=cr;rw[ax,List.length_map]at this;exact this
   have cn:ats.length=ts.length:=by rw[ax,List.length_map]
   obtain⟨rfl,rfl⟩:aA=d1/\ac=tc:=by injection eT with e1 _ e3;exact⟨e1,e3⟩
   have a9:=a2.trans U;rw[hO.nN.1,cn];refine ρ ?_;refine cl (Xwp (vars:=c.vars) (rs:=rsA ats) (kf:=kf) (pf:=pf) om (λv hv=>hO.mok ax (hO.bagset ad hv).1) (ch.ext a9) cg (λp hp=>(ce p hp).ext a9) (Rd.own (Jh cx a5)) (λv hv=>(ad v hv).1) (λv hv l hl hx=>hO.bagcap (hO.bagset ad hv).1 hl (by rw[<-bc];exact hx))) ?_;rintro u c6 ⟨am,va,st,R,rfl,bn,hR⟩;obtain⟨J,A2,c2,ao,rfl,d6,d4,be,bd⟩:=Jzp bn.here;have d5:J.length=c.N:=by have:=congrArg List.length ao;simp at this;omega
   have a6:=a7.trans am;have a8:=aj.trans a6;have a4:=ap.trans am;have ae:=bs.ext a6;refine ρ ?_;refine ld (ae.at (i:=2) rfl) ?_;refine ρ ?_;refine cf ?_ ?_
   .exact Jmb om
   refine ρ ?_;refine Js (fun (v:Nat)=>[(5,.pointer (some ⟨b7,0,none⟩)),(11,.slice A2 J.length c2),(14,.int .i64 (v:Int))])
    (λv w'=>v<=c.N/\Ext c6 w') (λv=>c.N-v) 0 sB ⟨Nat.zero_le _,Ext.refl _⟩ ?_
   rintro v a3 ⟨dm,ab⟩;refine ρ ?_;refine ci (λh=>?_) (λh=>?_)
   .have lv:v<c.N:=by have:=oT h;omega
    clear h;have lk:v<J.length:=om
    have c9:Ext a3 a3.drew:=(Ext.refl a3).drew;have y:=ab.trans c9;have br:=ae.ext y;have bm:=be.ext y;have hp:=(bd _ (Kr rfl lk)).ext y;have bh:∀ j u,(J.getD v ta0).1.cells[j]?=some u->a3.drew.cell? ((adr A2 (v*3)).add j)=some u:=λj u hu=>Kc bm rfl lk hu;have av:(J.getD v ta0).2.rows=R v:=by
     have e1:((List.range c.N).map λv=>Jvd (kf v ||| 2^v) (R v))[v]?=(J.map (·.2))[v]?:=by rw[ao]
     simp only[List.getElem?_map,List.getElem?_range lv,List.getElem?_eq_getElem lk,Option.map_some,Option.some.injEq]at e1;rw[Qv ta0 lk,<-e1];rfl
    generalize hq:J.getD v ta0=q at hp bh av
    obtain⟨⟨t1,t2,t3⟩,a⟩:=q;simp only at av;obtain⟨⟨QA,qc,c1,dt,ds,dq⟩,c0,ai⟩:=id hp;simp only at c1 c0;obtain⟨ay,PG,az,e6,bz,_⟩:=id ai;simp only at bz;subst c1;subst c0;subst bz;have bl:RelV a3.drew (.agg #[.int .i64 (a.ar:Int),.slice PG ay.length az]) a.ar a.rows:=hp.rel;obtain⟨u1,cd,cm⟩:=bq.2.2.2 v lv;have bo:=(Rd.own bq.2.1).ext (a8.trans y);have bg:=cm.ext (a8.trans y);have du:=hO.rows_le ad lv (by have:=hR v lv;rwa [bc]at this);have e0:Ye c b2 (szA ats) v=Ye c kf (szA ats) v:=by unfold Ye;rw[Qvn bj ad lv]
    have e5:(R v).length<=65536:=(hR v lv).2.2;refine ρ ?_;refine dr [(0,0),(0,1),(0,2),(0,3),(0,4),(0,8),(0,9),(0,10),(0,11),(0,12),(1,5),(0,6),(1,7),(1,13),(0,14)] kr ?_;refine ρd ?_;refine Xc 3 v bm lk ?_;refine ρd ?_;refine Qb (cs:=[.int .i64 (a.ar:Int),.slice PG ay.length az]) (λj u hu=>by rw[Jvf];exact bh (1+j) u (by rw[Nat.add_comm];exact hu)) ?_;refine ρd ?_;refine dld (br.at (i:=2) rfl) ?_;refine ρd ?_;refine dix v bo lv ?_;refine ρd ?_;refine dld (bo.cell cd) ?_;refine ρd ?_;refine dcl (Gt bl) ?_;rintro u db ⟨rfl,aa⟩;refine⟨aa,?_⟩;rw[av];refine ρd ?_;rw[Zt (z:=((R v).length:Int)) om];refine dcl (Qpf (R v).length om _) ?_;rintro n1 c5 ⟨ck,G⟩;refine⟨G,?_⟩;refine ρd ?_;refine dcl (Jxs ck ((bg.ext aa).ext G)) ?_;rintro _ da ⟨rfl,ak⟩;refine⟨ak,?_⟩;have co:decide (0<Vt (R v).length (Ye c b2 (szA ats) v))=false:=by
     refine dF ?_;unfold Vt;split
     .decide
     rw[if_neg om];decide
    refine ρd ?_;refine ρ ?_;refine cf ?_ ?_
    .exact co
    refine ρ ?_;exact Jp (v+1) sO ⟨lv,y.trans (aa.trans (G.trans ak))⟩ om
   refine ρ ?_;refine cl (aw (a4.trans ab)) ?_;rintro _ c5 ⟨rfl,G⟩;refine ρ ?_;exact Jq ⟨rfl,(a4.trans ab).trans G⟩
end Go.Proofs.YtebiphhfkdbpfaaGreatDoor
