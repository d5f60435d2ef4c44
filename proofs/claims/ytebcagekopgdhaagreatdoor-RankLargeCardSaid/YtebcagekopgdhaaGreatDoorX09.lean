/- Part 9. -/
import Derived.Test.YtebcagekopgdhaaGreatDoorX08
import Derived.OpenShut
set_option linter.unusedVariables false
set_option maxRecDepth 100000
set_option maxHeartbeats 40000000
namespace Go.Proofs.YtebcagekopgdhaaGreatDoor
open Pl Go.Wk
variable {d:Bool}{ds:List Bool}{ts:List TA}{a b i k k' n p q v:Nat}{pf:Nat->Int}{y z:Row}
def dgV(d:Bool)(q:Nat): Nat:=if d then 7-q else q
def dgt(ds:List Bool)(n k i:Nat): Nat:=dgV (ds.getD i false) (k / 8^(n-1-i) % 8)
def Zq(ds:List Bool)(n k:Nat): Row:=(List.range n).map λi=>nV (dgt ds n k i:Nat)
def chL(ds:List Bool)(n:Nat): List Row:=(List.range (8^n)).map (Zq ds n)
theorem Qqz(h:q<8): dgV d q<8:=by unfold dgV;split<;>omega
theorem Qrm(h:q<8): dgV d (dgV d q)=q:=by unfold dgV;split<;>omega
theorem Yq: (Zq ds n k).length=n:=by simp [Zq]
theorem Jkw(h:i<n): (Zq ds n k).getD i V0=nV (dgt ds n k i:Nat):=by simp [Zq,List.getD,h]
theorem Qrl: dgt ds n k i<8:=Qqz (Nat.mod_lt _ (by decide))
theorem Uz: (chL ds n).length=8^n:=by simp [chL]
theorem Jhs(h:k<8^n): (chL ds n)[k]?=some (Zq ds n k):=by simp [chL,h]
theorem Qsp(h:a<b): cmpV (nV a) (nV b) = -1:=by
 have o:¬ ((a:Int)=(b:Int)):=om
 simp [cmpV,nV,o,sgn];omega
theorem cmpV_nV'(h:b<a): cmpV (nV a) (nV b)=1:=by
 have o:¬ ((a:Int)=(b:Int)):=om
 simp [cmpV,nV,o,sgn];omega
theorem Qhw(h:p<q)(hq:q<8): neg d (cmpV (nV (dgV d p:Nat)) (nV (dgV d q:Nat)))<0:=by
 cases d with
 | false=>
  show neg false (cmpV (nV (p:Nat)) (nV (q:Nat)))<0;rw [Qsp h];decide
 | true=>
  show neg true (cmpV (nV ((7-p:Nat):Int)) (nV ((7-q:Nat):Int)))<0;rw [cmpV_nV' om];decide
theorem Qph(h:k<k')(h':k'<8^n): ∃ m,m<n/\(∀ i,i<m->k / 8^(n-1-i)=k' / 8^(n-1-i))/\k / 8^(n-1-m)<k' / 8^(n-1-m):=by
 have hn:0<n:=by
  rcases Nat.eq_zero_or_pos n with h0|h0
  .subst h0;simp at h';omega
  .exact h0
 have key:∀ s m,m+s=n-1->(∀ i,i<m->k / 8^(n-1-i)=k' / 8^(n-1-i))->∃ m,m<n/\(∀ i,i<m->k / 8^(n-1-i)=k' / 8^(n-1-i))/\k / 8^(n-1-m)<k' / 8^(n-1-m):=by
  intro s;induction s with
  | zero=>
   intro m o hi;refine ⟨m,om,hi,?_⟩;rw [show n-1-m=0 by omega];simpa using h
  | succ s ih=>
   intro m o hi;rcases Nat.lt_or_ge (k / 8^(n-1-m)) (k' / 8^(n-1-m)) with hl|hl
   .exact ⟨m,om,hi,hl⟩
   .refine ih (m+1) om λi u=>?_;rcases Nat.lt_or_ge i m with h1|h1
    .exact hi i h1
    .obtain rfl:i=m:=om
     exact Nat.le_antisymm (Nat.div_le_div_right (Nat.le_of_lt h)) hl
 exact key (n-1) 0 om λi hi=>by omega
theorem Qrh(h:k<k')(h':k'<8^n): Jk (Zq ds n k) (Zq ds n k') ds<0:=by
 obtain ⟨m,u,C,G⟩:=Qph h h';have ht:(Zq ds n k).take m=(Zq ds n k').take m:=by
  unfold Zq;rw [<-List.map_take,<-List.map_take];refine List.map_congr_left λi hi=>?_;rw [Jrz om]at hi;have hi:=List.mem_range.1 hi;unfold dgt;rw [C i hi]
 refine Qxx ht (by rw [Yq];exact u) (by rw [Yq];exact u) ?_;rw [Jkw u,Jkw u];unfold dgt;refine Qhw ?_ (Nat.mod_lt _ (by decide));have o:k' / 8^(n-1-m)<8∨(0<m/\k / 8^(n-1-m) / 8=k' / 8^(n-1-m) / 8):=by
  rcases Nat.eq_zero_or_pos m with h0|h0
  .left
   subst h0;refine Nat.div_lt_of_lt_mul ?_;rw [show 8^(n-1-0)*8=8^n by rw [<-Nat.pow_succ];congr 1;omega];exact h'
  .right
   refine ⟨h0,?_⟩;have:=C (m-1) om;rw [show n-1-(m-1)=(n-1-m)+1 by omega,Nat.pow_succ,<-Nat.div_div_eq_div_mul,<-Nat.div_div_eq_div_mul]at this;exact this
 rcases o with o|⟨_,o⟩
 .rw [Nat.mod_eq_of_lt o,Nat.mod_eq_of_lt om];exact G
 .omega
theorem Jbd: Lt ds (chL ds n):=by
 unfold Lt chL;rw [List.pairwise_map,List.pairwise_iff_getElem];intro i j hi u o;rw [List.length_range]at hi u;rw [List.getElem_range,List.getElem_range];exact Qrh o u
def DgP(n:Nat)(y:Row): Prop:=y.length=n/\∀ i,i<n->∃ q:Nat,q<8/\y.getD i V0=nV (q:Nat)
theorem Jsz: ∀ (n:Nat) (f:Nat->Nat),(∀ i,i<n->f i<8)->∃ k,k<8^n/\∀ i,i<n->k / 8^(n-1-i) % 8=f i
 | 0,f,_=>⟨0,by decide,λi h=>om⟩
 | n+1,f,hf=>by
  obtain ⟨k,hk,h⟩:=Jsz n f λi hi=>hf i om;have h8:=hf n om;refine ⟨8*k+f n,by rw [Nat.pow_succ];omega,λi hi=>?_⟩;rcases Nat.lt_or_ge i n with h1|h1
  .rw [<-h i h1,show n+1-1-i=(n-1-i)+1 by omega,Nat.pow_succ,Nat.mul_comm (8^(n-1-i)) 8,<-Nat.div_div_eq_div_mul,show (8*k+f n) / 8=k by omega]
  .obtain rfl:i=n:=om
   rw [show i+1-1-i=0 by omega];simp;omega
theorem chL_mem: y∈chL ds n↔DgP n y:=by
 unfold chL;rw [List.mem_map];constructor
 .rintro ⟨k,_,rfl⟩;exact ⟨Yq,λi hi=>⟨_,Qrl,Jkw hi⟩⟩
 .rintro ⟨J,G⟩;have u:∀ i,∃ q:Nat,q<8/\(i<n->y.getD i V0=nV (q:Nat)):=λi=>by
   by_cases hi:i<n
   .obtain ⟨q,o,C⟩:=G i hi;exact ⟨q,o,λ_=>C⟩
   .exact ⟨0,by decide,λh=>absurd h hi⟩
  obtain ⟨k,O,h⟩:=Jsz n (λi=>dgV (ds.getD i false) (Classical.choose (u i))) λi _=>Qqz (Classical.choose_spec (u i)).1;refine ⟨k,List.mem_range.2 O,?_⟩;refine List.ext_getElem (by rw [Yq,J]) λi o C=>?_;rw [Yq]at o;rw [<-Jd V0 _ (by rw [Yq];exact o),<-Jd V0 _ C,Jkw o,(Classical.choose_spec (u i)).2 o];unfold dgt;rw [h i o,Qrm (Classical.choose_spec (u i)).1]
def chV(i:Nat): List Nat:=[i,i+1]
theorem pm2(i:Nat)(z:Row): pmR (chV i) z=[z.getD i V0,z.getD (i+1) V0]:=rfl
theorem pm2_dg: DgP 2 (pmR (chV i) z)↔(∃ q:Nat,q<8/\z.getD i V0=nV (q:Nat))/\∃ q:Nat,q<8/\z.getD (i+1) V0=nV (q:Nat):=by
 rw [pm2];constructor
 .intro h;exact ⟨h.2 0 (by decide),h.2 1 (by decide)⟩
 .intro h;refine ⟨rfl,λj o=>?_⟩;rcases (show j=0∨j=1 by omega) with rfl|rfl
  .exact h.1
  .exact h.2
theorem Qzm(hn:2<=n)(z:Row): Zz n (n-1) chV (λ_=>chL [] 2) z↔DgP n z:=by
 unfold Zz;constructor
 .rintro ⟨u,o⟩;refine ⟨u,λi hi=>?_⟩;rcases Nat.eq_zero_or_pos i with h0|h0
  .subst h0;exact (pm2_dg.1 (chL_mem.1 (o 0 om))).1
  .have:=(pm2_dg.1 (chL_mem.1 (o (i-1) om))).2;rw [show i-1+1=i by omega]at this;exact this
 .rintro ⟨u,o⟩;exact ⟨u,λi hi=>chL_mem.2 (pm2_dg.2 ⟨o i om,o (i+1) om⟩)⟩
theorem Qtd(hn:2<=n)(y:Row): y∈chL ds n↔∃ z,Zz n (n-1) chV (λ_=>chL [] 2) z/\z.take n=y:=by
 rw [chL_mem];constructor
 .intro h;exact ⟨y,(Qzm hn y).2 h,List.take_of_length_le (by rw [h.1];exact Nat.le_refl _)⟩
 .rintro ⟨z,o,rfl⟩;have:=(Qzm hn z).1 o;rw [List.take_of_length_le (by rw [this.1];exact Nat.le_refl _)];exact this
theorem Qsz(hn:2<=n)(u x:Nat): nb0 n (Xz (n-1) chV) u x=true↔u<n/\x<n/\(x=u+1∨u=x+1):=by
 simp only [nb0,Bool.and_eq_true,decide_eq_true_eq,bne_iff_ne,List.any_eq_true,Xz,List.mem_map,List.mem_range];constructor
 .rintro ⟨⟨G,J⟩,_,⟨i,hi,rfl⟩,o,C⟩;have o:=edgeOf_bit.1 o;have C:=edgeOf_bit.1 C;simp only [chV,List.mem_cons,List.not_mem_nil,or_false]at o C;omega
 .rintro ⟨G,J,o⟩;refine ⟨⟨G,om⟩,_,⟨min u x,om,rfl⟩,edgeOf_bit.2 ?_,edgeOf_bit.2 ?_⟩ <;>
  .simp only [chV,List.mem_cons,List.not_mem_nil,or_false];omega
theorem Jsv(hi:i<n): (Qk [] n).getD i 0=n-1-i:=by
 simp [Qk,List.getD,hi]
theorem Qzl{n:Nat}(hn:2<=n): ∀ (t:Nat),t<=n->∀ u x,u<n-t->(Zs (nb0 n (Xz (n-1) chV)) ((Qk [] n).take t) u x=true↔x<n-t/\(x=u+1∨u=x+1))
 | 0,_,u,x,hu=>by
  rw [List.take_zero];show nb0 n _ u x=true↔_;rw [Qsz hn];omega
 | t+1,ht,u,x,hu=>by
  have hl:(Qk [] n).length=n:=by simp [Qk]
  have ih:=Qzl hn t om;have e:(Qk [] n).take (t+1)=(Qk [] n).take t++[n-1-t]:=by rw [Ql 0 om,Jsv om]
  rw [e,Jfg];show Yd (n-1-t) (Zs _ ((Qk [] n).take t)) u x=true↔_;unfold Yd;have h1:=ih (n-1-t) u om;have h2:=ih u x om;have h3:=ih (n-1-t) x om;by_cases hc:Zs (nb0 n (Xz (n-1) chV)) ((Qk [] n).take t) (n-1-t) u=true
  .rw [if_pos hc];have hc:=h1.1 hc;simp only [Bool.and_eq_true,Bool.or_eq_true,h2,h3,bne_iff_ne];omega
  .rw [if_neg hc];have hc:=(not_congr h1).1 hc;rw [h2];omega
theorem Jhr{x:Nat}(hn:2<=n)(hv:v<n): Zb (nb0 n (Xz (n-1) chV)) (Qk [] n) v x=true↔x+1=v:=by
 have o:PermOk n n []:=⟨Nat.le_refl _,by simp,(λv h=>by cases h),List.nodup_nil⟩;unfold Zb;have e:pre (Qk [] n) v=(Qk [] n).take (n-1-v):=by
  have:=Jvl o.ond (i:=n-1-v) (by rw [o.olen];omega);rw [Jsv om,show n-1-(n-1-v)=v by omega]at this;exact this
 rw [e,Qzl hn (n-1-v) om v x om];omega
theorem Qzk(hn:2<=n){kf:Nat->Nat}(h:Jjs n (Xz (n-1) chV) (Qk [] n) kf pf)(hv:v<n): (∀ x,(kf v).testBit x=true↔x+1=v)/\pf v=(v:Int)-1:=by
 obtain ⟨_,J,G⟩:=h v hv;have u:∀ x,(kf v).testBit x=true↔x+1=v:=λx=>by rw [J];exact Jhr hn hv
 refine ⟨u,?_⟩;rcases G with ⟨e,o⟩|⟨p,e,hp,_⟩
 .rw [e];rcases Nat.eq_zero_or_pos v with h0|h0
  .omega
  .have:=o (v-1);have C:=(Jhr (x:=v-1) hn hv).2 om;rw [C]at this;cases this
 .have:=(Jhr hn hv).1 hp;omega
theorem Qtc(hn:2<=n)(h32:n<=32){kf:Nat->Nat}(h:Jjs n (Xz (n-1) chV) (Qk [] n) kf pf)(hv:v<n): ∀ x,x∈bk (kf v ||| 2^v) 32↔x=v∨x+1=v:=λx=>by
 have o:=(Qzk hn h hv).1 x;rw [bk_mem,Nat.testBit_or,Bool.or_eq_true,o,Nat.testBit_two_pow];simp only [decide_eq_true_eq];omega
theorem Qzj(hn:2<=n)(h32:n<=32)(hd:ds.length=n)(hl:ts.length=n-1)(ht:∀ i,i<ts.length->(ts.getD i ta0).2=⟨nz (chV i),2,chL [] 2⟩): BldI n n ds [] ts chV λ_=>chL [] 2:=by
 have a3:∀ r∈chL [] 2,∀ u∈r,∃ q:Nat,q<8/\u=nV (q:Nat):=λr C u G=>by
  obtain ⟨Z,U⟩:=chL_mem.1 C;obtain ⟨i,hi,e⟩:=List.getElem_of_mem G;obtain ⟨q,J,e2⟩:=U i om;rw [Jd V0 _ hi,e]at e2;exact ⟨q,J,e2⟩
 refine ⟨⟨h32,om,λi hi=>ht i hi,λi hi=>?_,λi hi u G=>?_,λv hv=>?_,λ_ _=>Jbd,λ_ _ r C=>(chL_mem.1 C).1,λ_ _=>by rw [Uz];decide⟩,⟨Nat.le_refl _,by simp,(λv h=>by cases h),List.nodup_nil⟩,hd,λi hi r C u G=>?_,λkf pf hB v hv=>⟨λl a4 hx=>?_,λi hi=>.inl (by rw [Uz];decide)⟩⟩
 .simp [chV,Qu]
 .simp only [chV,List.mem_cons,List.not_mem_nil,or_false]at G;omega
 .rcases Nat.lt_or_ge v (n-1) with Z|Z
  .exact ⟨v,om,by simp [chV]⟩
  .exact ⟨v-1,om,by simp only [chV,List.mem_cons,List.not_mem_nil,or_false];omega⟩
 .obtain ⟨q,J,rfl⟩:=a3 r C u G;exact ⟨rfl,Jtl om⟩
 .rw [hl]at hB hx;have hb:=Qtc hn h32 hB hv;have a5:(bk (kf v ||| 2^v) 32).length<=2:=by
   have a2:(bk (kf v ||| 2^v) 32).Nodup:=List.nodup_range.sublist List.filter_sublist;have:=Jkc (m:=[v,v-1]) a2 λx hx=>by
    have:=(hb x).1 hx;simp only [List.mem_cons,List.not_mem_nil,or_false];omega
   simpa using this
  have O:∀ x∈l,x∈chL [] 0++(chL [] 1++chL [] 2):=λx a1=>by
   obtain ⟨z,hz,rfl,hS⟩:=hx x a1;have hD:DgP (bk (kf v ||| 2^v) 32).length (pmR (bk (kf v ||| 2^v) 32) z):=by
    refine ⟨by simp [pmR],λi hi=>?_⟩;have hm:=(hb _).1 (getD_mem' 0 _ hi);have o:=(bk_mem.1 (getD_mem' 0 _ hi)).2;rw [Jzz hi];generalize (bk (kf v ||| 2^v) 32).getD i 0=u at hm o ⊢
    have G:u<n:=om
    rcases Nat.lt_or_ge u (n-1) with Z|Z
    .obtain ⟨r,C,hj⟩:=hS u Z;have U:=hj 0 (by simp [chV]) (by simpa [chV] using o);obtain ⟨q,J,e⟩:=(chL_mem.1 C).2 0 (by decide);exact ⟨q,J,by rw [<-e];simpa [chV] using U.symm⟩
    .obtain ⟨r,C,hj⟩:=hS (u-1) om;have e1:u-1+1=u:=om
     have U:=hj 1 (by simp [chV]) (by simpa [chV,e1] using o);obtain ⟨q,J,e⟩:=(chL_mem.1 C).2 1 (by decide);exact ⟨q,J,by rw [<-e];simpa [chV,e1] using U.symm⟩
   have h3:=chL_mem (ds:=[]) |>.2 hD;rcases (show (bk (kf v ||| 2^v) 32).length=0∨(bk (kf v ||| 2^v) 32).length=1∨(bk (kf v ||| 2^v) 32).length=2 by omega) with e|e|e<;>rw [e]at h3<;>simp [h3]
  have:=Jkc (Jfp a4) O;simp only [List.length_append,Uz]at this;omega
theorem Qtb{kf:Nat->Nat}{BB:Nat->List BkT}(hp:∀ v,v<n->pf v=(v:Int)-1)(m:Nat)(y:Row): (Qg n kf pf BB).others m y=1:=by
 unfold AX.others;have:∀ k,k<=n->Jc k (λc=>if m<c/\(Qg n kf pf BB).par c<m then (Qg n kf pf BB).T c y else 1)=1:=by
  intro k;induction k with
  | zero=>intro _;rfl
  | succ k ih=>
   intro o;rw [Jc,ih om,if_neg];rintro ⟨G,C⟩;have u:(Qg n kf pf BB).par k=(k:Int)-1:=hp k om;omega
 exact this n (Nat.le_refl _)
theorem Qmp{w:World}{x:Value}{kf:Nat->Nat}{R:Nat->List Row}(hTB:∃ B0,TB B0 w)(hn:2<=n)(h32:n<=32)(hd:ds.length=n)(hl:ts.length=n-1)(ht:∀ i,i<ts.length->(ts.getD i ta0).2=⟨nz (chV i),2,chL [] 2⟩)(hE:ElR n n ts.length (Xz ts.length chV) [] chV (λ_=>chL [] 2) kf pf R)(hV:IxV w x n ds kf pf (λu=>if Xp n pf (TV n n kf pf R ds (plO [] n)) (ts.map (·.2))=0 then [] else BBo n n kf pf R ds (plO [] n) u) (Xp n pf (TV n n kf pf R ds (plO [] n)) (ts.map (·.2)))):
  IxA w x n ds kf pf (BBx (Xp n pf (TV n n kf pf R ds (plO [] n)) (ts.map (·.2))) n n kf pf R ds (plO [] n)) (Xp n pf (TV n n kf pf R ds (plO [] n)) (ts.map (·.2))) (chL ds n):=by
 have O:=Qzj hn h32 hd hl ht;have o:∀ i,i<ts.length->((ts.map (·.2)).getD i a0).rows=chL [] 2:=λi hi=>by
  rw [show (ts.map (·.2)).getD i a0=(ts.getD i ta0).2 by simp [List.getD,hi],ht i hi]
 have J:=hE.ixP (ds:=ds) (tot:=Xp n pf (TV n n kf pf R ds (plO [] n)) (ts.map (·.2))) (hE.fits O) (ats:=ts.map (·.2)) (by rw [List.length_map]) o rfl Jbd (L:=chL ds n) (λy=>by rw [hl];exact Qtd hn y)
 refine ⟨hTB,hV.congr λv G=>by unfold BBx;rw [if_pos G],J,λ_ z _ _ _=>?_,λv b C=>hE.htb C⟩;have C:=hE.bags;rw [hl]at C;rw [Qtb (λv G=>(Qzk hn C G).2)];decide
open Go.RowKit Pl Go.Wk
attribute [local irreducible] WC WL QX WD WDB WP WN WG WH WM
variable {ds:List Bool}{B0 ac dc f i n:Nat}{w:World}
def chA(i:Nat): List Atm:=(List.range i).map λv=>⟨nz (chV v),2,chL [] 2⟩
theorem Jbg(i:Nat): (chA i).length=i:=by simp [chA]
theorem Qtj(i:Nat): chA (i+1)=chA i++[⟨nz (chV i),2,chL [] 2⟩]:=by simp [chA,List.range_succ]
theorem Jvt(i:Nat): nz (chV i)=[(i:Int),(i:Int)+1]:=by simp [nz,chV]
theorem Qtf(hi:i<64): (chL [] 2).take (i+1)=(chL [] 2).take i++[nR ((i:Int) / 8) ((i:Int) % 8)]:=by
 have o:i<(chL [] 2).length:=by rw [Uz];exact hi
 rw [Ql [] o];congr 2
 have C:=Jhs (ds:=[]) (n:=2) (k:=i) hi;have u:(chL [] 2).getD i []=Zq [] 2 i:=by rw [List.getD,C];rfl
 rw [u];have J:(dgt [] 2 i 0:Int)=(i:Int) / 8:=by
  have:dgt [] 2 i 0=i / 8:=by
   show i / 8^1 % 8=i / 8;omega
  rw [this];omega
 have G:(dgt [] 2 i 1:Int)=(i:Int) % 8:=by
  have:dgt [] 2 i 1=i % 8:=by
   show i / 8^0 % 8=i % 8;omega
  rw [this];omega
 show [nV (dgt [] 2 i 0:Int),nV (dgt [] 2 i 1:Int)]=_;rw [J,G];rfl
theorem Qtg: ∀ r∈chL [] 2,r.length=2/\r.all Xj=true:=λr G=>by
 obtain ⟨O,J⟩:=chL_mem.1 G;refine ⟨O,List.all_eq_true.2 λu C=>?_⟩;obtain ⟨i,hi,e⟩:=List.getElem_of_mem C;obtain ⟨q,U,o⟩:=J i om;rw [Jd V0 _ hi,e]at o;rw [o];rfl
theorem Xjp(n f:Int)(A:Option Addr)(a a':Nat)(w:World): (Instr.build 92 #[(0,.int .i64 n),(1,.int .i64 f),(2,.slice A a a')]).run Tryz.prog w=.ok (.agg #[.int .i64 n,.int .i64 f,.slice A a a',.slice none 0 0,.slice none 0 0]) w:=kr
def IxS(x:Value)(n:Nat): Prop:=∃ XA xd YA yd ZA zd UA ud TA tn tc,x=.agg #[.slice XA n xd,.slice YA n yd,.slice ZA n zd,.slice UA n ud,.slice TA tn tc]
theorem IxV.shape{x:Value}{kf:Nat->Nat}{pf:Nat->Int}{BB:Nat->List BkT}{tot:Nat}(h:IxV w x f ds kf pf BB tot): IxS x f:=by
 obtain ⟨XA,G,YA,C,ZA,u,UA,J,tv,Z,U,rfl,_,_,_,_,_,_,o,_⟩:=h.ex;obtain ⟨TA,O,rfl,_⟩:=o;exact ⟨XA,G,YA,C,ZA,u,UA,J,TA,_,O,rfl⟩
def ChI(w:World)(x:Value)(n:Nat)(ds:List Bool): Prop:=∃ kf pf BB tot,IxA w x n ds kf pf BB tot (chL ds n)
theorem Qth{DA AA:Option Addr}(hTB:TB B0 w)(hn:2<=n)(h32:n<=32)(hl:ds.length=n)(hD:BoolsV w (.slice DA n dc) ds)(hG:GV 3 AtG w (.slice AA (n-1) ac) (chA (n-1))):
  Ret Tryz.prog 47 [.agg #[.int .i64 (n:Int),.int .i64 (n:Int),.slice DA n dc,.slice none 0 0,.slice AA (n-1) ac]] w λu w'=>Ext w w'/\∃ x st,u=.tuple #[x,.int .i64 st,.int .i64 0]/\IxS x n /\
   Off (λk=>k<w.heap.size) w' λW=>(∃ B0,TB B0 W)->ChI W x n ds:=by
 obtain ⟨ts,A,cc,G,eA,a2,a4,Z,U⟩:=Jlh hG;injection eA with J e2 e3
 subst J;subst e3;have C:ts.length=n-1:=by rw [<-Jbg (n-1),G,List.length_map]
 have ht:∀ i,i<ts.length->(ts.getD i ta0).2=⟨nz (chV i),2,chL [] 2⟩:=λi hi=>by
  have h1:(ts.map (·.2)).getD i a0=(ts.getD i ta0).2:=by simp [List.getD,hi]
  have a1:i<n-1:=om
  rw [<-h1,<-G];simp [chA,List.getD,a1]
 obtain ⟨D,d',J,h1,h2,h3⟩:=hD;injection J with J e2' e3
 subst J;subst e3;have a3:BldV w (.agg #[.int .i64 (n:Int),.int .i64 (n:Int),.slice DA n dc,.slice none 0 0,.slice AA (n-1) ac]) n n ds [] ts:=by
  refine ⟨DA,dc,none,0,AA,ac,by rw [C];rfl,om,h3,Rd.nil,Nat.zero_le _,Z,a2,U⟩
 refine (Qjl hTB (Qzj hn h32 hl C ht) a3).mono ?_;rintro u w5 ⟨O,x,st,kf,pf,R,rfl,hE,o⟩;exact ⟨O,x,_,rfl,o.here.shape,o.imp λW hV hT=>⟨_,_,_,_,Qmp hT hn h32 hl C ht hE hV⟩⟩
end Go.Proofs.YtebcagekopgdhaaGreatDoor
namespace Go.Wk
open Go.RowKit
section
variable {N:Nat->Prop} {P:Program} {n:Nat} {al:AL} {w:World} {Q:Exit->Act->World->Prop} {ops:Array Oper} {drest:List (Nat×Oper)} {d ty:Nat} {pos:String} {aft:Array Edge}
end
end Go.Wk
namespace Go.Proofs.YtebcagekopgdhaaGreatDoor
open Go.RowKit Pl Go.Wk
attribute [local irreducible] WC WL QX WD WDB WP WN WG WH WM
theorem nb80{n:Nat}(h:n<1208925819614629174706176): (Jj n).length<=1000:=(Nb.pow (k:=1) (by rw [Nat.pow_one];exact nL (Nat.le_of_lt h) (by decide)) om).len
end Go.Proofs.YtebcagekopgdhaaGreatDoor
namespace Go.Proofs.YtebcagekopgdhaaGreatDoor
open Go.RowKit Pl Go.Wk
attribute [local irreducible] WC WL QX WD WDB WP WN
variable {m n:Nat}{u v:Value}{w:World}
theorem Qld(hv:Ret Tryz.prog 52 [v] w λv' w'=>(∃ A,v'=.slice A (Jj n).length (Jj n).length/\Rd w 1 A (Jj n).length (Nc (Jj n)))/\w'=w)(hu:NatV w u m)(hn:(Jj n).length<=1000)(h0:0<m)(hm:m<4294967296):
  Ret Tryz.prog 49 [v,u] w λr w'=>(∃ x y,r=.tuple #[x,y,.int .i64 0]/\NatV w' x (n / m)/\NatV w' y (n % m))/\Ext w w':=by
 have J:Jj m=[UInt32.ofNat m]:=Jkh om hm;refine Jz Tryz.func49 Tryz.ntmps49 rfl kr rfl ?_;refine ρ ?_;refine cl hv ?_;rintro v' w' ⟨⟨A,rfl,ha⟩,rfl⟩;refine ρ ?_;refine cl (Vg hu) ?_;rintro u' a2 ⟨⟨B,rfl,hb⟩,rfl⟩;rw [J]at hb ⊢;refine ρ ?_;refine cl (Un (n:=n) (m:=m) ⟨A,_,rfl,Nat.le_refl _,om,ha⟩ ⟨B,1,by rw [J],by rw [J];simp,by rw [J];simp,by rw [J];exact hb⟩) ?_;rintro t w' ⟨rfl,o⟩;refine ρ ?_;refine ci (λh=>?_) (λh=>?_)
 .have Z:n<m:=by
   have:=oT h;unfold Zg at this;rcases Nat.lt_or_ge n m with h1|h1
   .exact h1
   .rw [if_neg om]at this;split at this<;>omega
  refine ρ ?_;refine cl (Qzf (ha.ext o) (Jwj _) om) ?_;rintro v' w1 ⟨⟨A',c',rfl,hc,hr⟩,hx⟩;refine ρ ?_;refine Xr ⟨⟨.slice none 0 0,_,rfl,?_,?_⟩,o.trans hx⟩
  .rw [Nat.div_eq_of_lt Z];exact NatV.nil _
  .rw [Nat.mod_eq_of_lt Z];exact ⟨A',c',rfl,hc,om,hr⟩
 refine ρ ?_;refine cl (Jhq (ha.ext o) (Jwj _) om) ?_;rintro q w1 ⟨ho,U⟩;obtain ⟨A',c',rfl,hc,hf⟩:=Jy ho;have a1:=(hb.ext o).ext U;refine ρ ?_;refine ix 0 a1 (by simp) ?_;refine ρ ?_;refine ld (a1.cell (Xm (l:=[UInt32.ofNat m]) (k:=0) (by simp))) ?_;have em:(([UInt32.ofNat m].getD 0 0).toNat:Int)=(m:Int):=by
  show ((UInt32.ofNat m).toNat:Int)=m;rw [UInt32.toNat_ofNat',Nat.mod_eq_of_lt (show m<2^32 by omega)]
 rw [em];refine ρ ?_;refine cl (Qqv rfl om ho h0 hm) ?_;rintro r w2 ⟨rfl,⟨os,a4,C,a5⟩,a6⟩;rw [Xt]at C ⊢;have a3:Ext a2 w2:=Qb (o.trans U) a6 (λk e=>nL o.size (hf k e).1);have G:=Rd.own a5;rw [<-a4]at G hc ⊢;refine ρ ?_;refine cl (Gx G hc om) ?_;rintro t w3 ⟨rfl,rfl⟩;have:=Ge G om;rw [C]at this ⊢;have hr:n % m<m:=Nat.mod_lt _ h0;refine ρ ?_;rw [Ug om];refine cl (Jvw (n % m) om _) ?_;rintro y w4 ⟨hy,O⟩;refine ρ ?_;exact Xr ⟨⟨_,y,rfl,this.ext O,hy⟩,a3.trans O⟩
theorem bit8: ∀ q:Nat,q<=8->(bits .and .i64 (q:Int) 1 == 1)=decide (q % 2=1):=by decide +kernel
theorem Qkl(hv:NatV w v n)(h0:0<n)(hn:n<4294967296): Ret Tryz.prog 87 [v] w λr w'=>r=.int .i64 (Ja n:Int)/\w'=w:=by
 have u:Jj n=[UInt32.ofNat n]:=Jkh om hn;refine Jz Tryz.func87 Tryz.ntmps87 rfl kr rfl ?_;refine ρ ?_;refine cl (Vg hv) ?_;rintro J w' ⟨⟨A,rfl,o⟩,rfl⟩;rw [u]at o ⊢;refine ρ ?_;refine ix 0 o (by simp) ?_;refine ρ ?_;refine ld (o.cell (Xm (l:=[UInt32.ofNat n]) (k:=0) (by simp))) ?_;have C:(([UInt32.ofNat n].getD 0 0).toNat:Int)=(n:Int):=by
  show ((UInt32.ofNat n).toNat:Int)=n;rw [UInt32.toNat_ofNat',Nat.mod_eq_of_lt (show n<2^32 by omega)]
 rw [C];refine ρ ?_;refine cl (Jfw n hn w') ?_;rintro _ G ⟨rfl,rfl⟩;have:=Gg (x:=n) (k:=32) om;refine ρ ?_;refine Jq ⟨congrArg (Value.int .i64) ?_,rfl⟩;rw [show (([UInt32.ofNat n].length:Int)-1)=0 from rfl,Vp (z:=(0:Int)) om,Int.mul_zero,Vp (z:=(0:Int)) om,Int.zero_add,Vp om]
theorem Qgb(hv:NatV w v 8)(h0:2<=n)(hn:n<=8): Ret Tryz.prog 48 [v,.int .i64 (n:Int)] w λr w'=>(∃ u,r=.tuple #[u,.int .i64 0]/\NatV w' u (8^n))/\Ext w w':=by
 have l8:(Jj 8).length=1:=by rw [Jkh (by decide) (by decide)];rfl
 have hs:∀ k,k<=8->(Jj (8^k)).length<=1000:=λk hk=>by
  have:8^k<=8^8:=Nat.pow_le_pow_right (by decide) hk;exact nb80 om
 refine Jz Tryz.func48 Tryz.ntmps48 rfl kr rfl ?_;refine ρ ?_;refine cl (Vg hv) ?_;rintro v' w' ⟨⟨A,rfl,ha⟩,rfl⟩;have a1:NatV w' (.slice A (Jj 8).length (Jj 8).length) 8:=⟨A,_,rfl,Nat.le_refl _,om,ha⟩;refine ρ ?_;refine cl (Qkl a1 (by decide) (by decide)) ?_;rintro _ w1 ⟨rfl,rfl⟩;rw [show Ja 8=4 by decide];refine ρ ?_;refine Go.Wk.kf 17 ?_ ?_
 .simp;omega
 refine ρ ?_;refine Go.Wk.kf 26 ?_ ?_
 .exact dF om
 refine ρ ?_;refine ci (λC=>?_) (λC=>?_)
 .exfalso
  have:=oT C;omega
 clear C;refine ρ ?_;refine cl (Jvw 1 (by decide) _) ?_;rintro o w2 ⟨ho,a6⟩;refine ρ ?_;rw [Ug (z:=(n:Int)) om];refine cl (Jhz n om _) ?_;rintro _ w3 ⟨rfl,rfl⟩;have hL:Ja n<=4:=Gg om;refine ρ ?_;refine Qq (fun (t:Nat) (Z:Value)=>[(0,.slice A (Jj 8).length (Jj 8).length),(1,.int .i64 (n:Int)),(7,Z),(8,.int .i64 ((t:Int)-1))])
  (λt Z w'=>t<=4/\NatV w' Z (8^(n / 2^t))/\Ext w1 w') (λt _=>t) (Ja n) o sB ⟨hL,by rw [Nat.div_eq_of_lt Jyd];exact ho,a6⟩ ?_
 rintro t Z w4 ⟨ht,G,J⟩;have a4:n / 2^t<=8:=nL (Nat.div_le_self _ _) hn;refine ρ ?_;refine ci (λC=>?_) (λC=>?_)
 .obtain ⟨t,rfl⟩:∃ s,t=s+1:=⟨t-1,by have:=oT C;omega⟩;clear C;rw [show ((t+1:Nat):Int)-1=(t:Int) by omega];have hd:n / 2^t=2*(n / 2^(t+1))+n / 2^t % 2:=by rw [Nat.pow_succ,<-Nat.div_div_eq_div_mul];omega
  have a3:n / 2^t<=8:=nL (Nat.div_le_self _ _) hn;refine ρ ?_;refine cl (Kw G G (hs _ a4) (hs _ a4)) ?_;rintro o5 w5 ⟨O,_,U⟩;rw [<-Nat.pow_add]at O;refine ρ ?_;refine Yx rfl rfl om rfl ?_;have es:((n:Int)).fdiv (2^min ((t:Nat):Int).toNat IntKind.i64.bits)=((n / 2^t:Nat):Int):=by rw [Jqk n t IntKind.i64.bits,Nat.min_eq_left (by show t<=64;omega)]
  refine kv 51 (u:=.int .i64 ((n / 2^t:Nat):Int)) (congrArg (Value.int .i64) es) ?_;have hb:=bit8 (n / 2^t) a3;refine ρ ?_;refine ci (λC=>?_) (λC=>?_)
  .have h1:n / 2^t % 2=1:=by rw [hb]at C;exact oT C
   refine ρ ?_;refine cl (Kw O (a1.ext (J.trans U)) (hs _ om) om) ?_;rintro o6 w6 ⟨a2,_,a5⟩;rw [<-Nat.pow_succ,show (n / 2^(t+1)+n / 2^(t+1)).succ=n / 2^t by omega]at a2;refine ρ ?_;exact Js t o6 sB ⟨om,a2,(J.trans U).trans a5⟩ om
  .have h1:n / 2^t % 2=0:=by
    rw [hb]at C;have:=oF C;omega
   rw [show n / 2^(t+1)+n / 2^(t+1)=n / 2^t by omega]at O;refine ρ ?_;exact Js t o5 sB ⟨om,O,J.trans U⟩ om
 .have h0:t=0:=by have:=oF C;omega
  clear C;subst h0;rw [Nat.pow_zero,Nat.div_one]at G;have h8:8^n<=8^8:=Nat.pow_le_pow_right (by decide) hn;refine ρ ?_;refine cl (Qkl G (Nat.pow_pos (by decide)) om) ?_;rintro _ w5 ⟨rfl,rfl⟩;have hl:Ja (8^n)<=32:=Gg om;refine ρ ?_;refine ci (λC=>?_) (λC=>?_)
  .exfalso
   have:=oT C;omega
  clear C;refine ρ ?_;exact Vb ⟨⟨Z,rfl,G⟩,J⟩
end Go.Proofs.YtebcagekopgdhaaGreatDoor
namespace Go.Wk
open Go.RowKit
variable {cs xs:List Value}{A:Option Addr}
section
variable {P:Program} {n:Nat} {al:AL} {w:World} {Q:Exit->Act->World->Prop} {ops:Array Oper} {rest:List Oper} {d ty:Nat} {pos:String} {aft:Array Edge} {tt:TT}
theorem cpm{x y:Operand}{dT sT e t b dl dc sn sc:Nat}{k:TK}[h:Tab P tt](hb:Blk w b t cs)(hr:Rd w 1 A sn xs)(hdl:cs.length=dl)(h1:∀ u∈xs,u.oneCell'=true)(kk:∀ w1 z,Blk w1 b t (xs.take dl++cs.drop sn)->w.grownBy w1 (some b)->WL P n ops Q rest ((d,.int .i64 z)::al) w1)(ht:tk tt dT=some k:=by rfl)(hk:k.desc=.slice e:=by rfl)(hz:k.esz=1:=by rfl)(hx:ev al x=some (.slice (some ⟨b,0,none⟩) dl dc):=by rfl)(hy:ev al y=some (.slice A sn sc):=by rfl)(hd:Nat.blt d n=true:=by rfl):
  WL P n ops Q (⟨some d,.call { callee:=.builtin .copy,args:=#[x,y],argTypes:=#[dT,sT] },ty,pos,aft,none⟩::rest) al w:=by
 have C:xs.length=sn:=by rw [hr.len,Nat.mul_one]
 have J:=Gz h.ok ht hk hz;have G:(P.info? e).map (·.size)=some 1:=J.2
 cases A with
 | none=>
  have Z:sn=0:=by
   rcases Nat.eq_zero_or_pos sn with h0|h0
   .exact h0
   .obtain ⟨ad,hA,_⟩:=hr.isome om om;cases hA
  subst Z;have:xs=[]:=List.eq_nil_of_length_eq_zero C;subst this;have o:∀ c',(Builtin.copy_ #[dT,sT] ty #[.slice (some ⟨b,0,none⟩) dl dc,.slice none 0 c']).run P w=.ok (.int .i64 0) w:=λc'=>by
   cases hq:P.info? e with
   | none=>rw [hq]at G;cases G
   | some i=>simp [Builtin.copy_,run_underlying J.1,Builtin.lenOf,Builtin.firstCells,sizeOf,typeInfo,hq,storeCells,goInt]
  refine wop (w':=w) hd (λa O=>?_) (kk w 0 (by simpa using hb) (Zj (Ext.refl w) _));simp [execOp,resolve,invoke,builtin,O.ev hx,O.ev hy,o]
 | some ad=>
  have hB:Blk (w.setRow b (xs.take dl++cs.drop sn).toArray) b t (xs.take dl++cs.drop sn):=setRow_heap w b _ _ _ _ hb;refine wop (w':=w.setRow b (xs.take dl++cs.drop sn).toArray) hd (λa O=>?_) (kk _ ((xs.take dl).length:Nat) hB (Kl w b (xs.take dl++cs.drop sn).toArray));have o:=run_copy_row P w dT sT ty e b 0 dl dc ad sn sc cs.toArray t (xs.take dl) J.1 G hb (by rw [List.length_take,C,Nat.min_comm]) (λj v U=>by
   rw [List.getElem?_take]at U;split at U
   .exact hr.cell U
   .cases U) (by simp;omega) (λu J=>h1 u (List.mem_of_mem_take J))
  have e1:(cs.toArray.toList.take 0++xs.take dl++cs.toArray.toList.drop (0+(xs.take dl).length)).toArray=(xs.take dl++cs.drop sn).toArray:=by
   rw [List.take_zero,List.nil_append,Nat.zero_add,List.length_take];congr 2
   rcases Nat.le_total dl xs.length with h'|h'
   .rw [Nat.min_eq_left h',List.drop_eq_nil_of_le (by simp;omega),List.drop_eq_nil_of_le om]
   .rw [Nat.min_eq_right h',C]
  rw [e1]at o;simp [execOp,resolve,invoke,builtin,O.ev hx,O.ev hy,o,goInt]
end
theorem Xjb{w:World}{base e n:Nat}(h:w.ownsRow base e 1 (.slice A n n) n xs)(h0:0<n): ∃ b,A=some ⟨b,0,none⟩/\base<=b/\Blk w b e xs:=by
 rcases h.2 with ⟨o,_⟩|⟨g,cap,cur,hv,hb,hg,hc,hcm,hcs,ht⟩
 .injection o with _ h2 _;omega
 .injection hv with e1 e2 e3
  subst e3;refine ⟨g,e1,hb,?_⟩;have u:=h.1;rw [List.take_of_length_le (by simp at hcs ⊢;omega)]at ht;rw [<-ht];exact hg
end Go.Wk
namespace Go.Proofs.YtebcagekopgdhaaGreatDoor
open Go.RowKit Pl Go.Wk
attribute [local irreducible] WC WL QX WD WDB WP WN WG WH WM
variable {ds dsv:List Bool}{B0 dc k n pc:Nat}
def cpD(dsv:List Bool)(n:Nat): List Bool:=dsv.take n++(List.replicate n false).drop dsv.length
theorem Qrn: (cpD dsv n).length=n:=by
 simp [cpD];omega
theorem Qsj(hk:k<8^n): Ju ds (chL ds n) (Zq ds n k)=k/\0<(wiL (chL ds n) (Zq ds n k)).length:=by
 have C:k<(chL ds n).length:=by rw [Uz];exact hk
 have o:∀ y∈chL ds n,y.length=n:=λy u=>(chL_mem.1 u).1;have e:(chL ds n).getD k []=Zq ds n k:=by rw [List.getD,Jhs hk];rfl
 have G:Zq ds n k∈chL ds n:=by rw [<-e];exact getD_mem' [] _ C
 constructor
 .have:=rk_at Jbd C λy u=>by rw [o y u,e,Yq]
  rw [e]at this;exact this
 .have:=Qyc o (p:=Zq ds n k) Yq;rw [decide_eq_true G]at this;exact oT this
set_option linter.constructorNameAsVariable false in
theorem Qfn{w:World}{a:Int}{dA pA:Option Addr}{l:List UInt32}(hTB:TB B0 w)(ha:0<=a/\a<=255)(hD:Rd w 1 dA dsv.length (dsv.map Value.bool))(hP:Rd w 1 pA l.length (Nc l))(hpc:l.length<=pc):
  Ret Tryz.prog 11 [.int .u8 a,.slice dA dsv.length dc,.slice pA l.length pc] w λu w'=>u=.bool true/\Ext w w':=by
 obtain ⟨m,hm,fk⟩:=Qbr (n:=7) ha.1 (by decide);rw [show ((7:Nat):Int)=7 from rfl]at hm;refine Jz Tryz.func11 Tryz.ntmps11 rfl kr rfl ?_;refine ρ ?_;refine ki 36 (λo=>?_) (λo=>?_)
 .refine ρ ?_;refine cl (Jlg hTB) ?_;rintro _ w1 ⟨rfl,ab⟩;refine ρ ?_;exact Jq ⟨rfl,ab⟩
 have e6:l.length<=4:=by have:=oF o;omega
 clear o;refine ρ ?_;refine ci (λo=>?_) (λo=>?_)
 .refine ρ ?_;refine cl (Jlg hTB) ?_;rintro _ w1 ⟨rfl,ab⟩;refine ρ ?_;exact Jq ⟨rfl,ab⟩
 have ez:dsv.length<=10:=by have:=oF o;omega
 clear o;refine ρ ?_;refine Go.Wk.rem (b:=7) (by decide) ?_;rw [hm];refine ρ ?_;rw [Vp (z:=(m:Int)) om];refine ρ ?_;obtain ⟨n,hn⟩:∃ n,n=m+2:=⟨_,rfl⟩;rw [show ((m:Int)+2)=(n:Int) by omega,Vp (z:=(n:Int)) om];refine mkn EB n om (by unfold maxLen;omega) ?_;intro w1 DA ab cq fu;have e:(madeCells (Value.bool false).cells (n*1)).toList=List.replicate n (Value.bool false):=by rw [Nat.mul_one];exact Yw _ _
 rw [e]at cq;obtain ⟨bD,rfl,ei,dm⟩:=Xjb cq om;refine ρ ?_;refine bld (Xjp _ _ _ _ _ _) ?_;refine ρ ?_;refine alc zInp ?_;intro w2 b2 e0 dd ep;refine ρ ?_;refine stW ep ?_;intro w3 dn ft dz;have bf:Ext w1 w3:=dz w1 e0 dd;have b9:=ab.trans bf;refine ρ ?_;refine ld (dn.at (i:=2) rfl) ?_;refine ρ ?_;refine cpm (dl:=n) (dm.ext bf) (hD.ext b9) (by simp) (λu hu=>by obtain ⟨x,_,rfl⟩:=List.mem_map.1 hu;rfl) ?_;intro w4 z au d5;have cw:n<=8:=om
 have cx:2<=n:=om
 have cb:Ext w w4:=Qb b9 d5 λk C=>by injection C with C;rw [<-C];exact ei
 have c9:¬ b2=bD:=λe=>by have:=dm.lt;omega
 have c2:=Jv dn (GrN.by d5 λk C=>by injection C with C;exact C.symm:GrN (λk=>k=bD) w3 w4) c9;have eD:(dsv.map Value.bool).take n++(List.replicate n (Value.bool false)).drop dsv.length=(cpD dsv n).map Value.bool:=by simp [cpD,List.map_take]
 rw [eD]at au;obtain ⟨ds,d6⟩:∃ ds,ds=cpD dsv n:=⟨_,rfl⟩;have bs:ds.length=n:=by rw [d6];exact Qrn
 rw [<-d6]at au;refine ρ ?_;refine Qq (fun (i:Nat) (v:Value)=>[(2,.slice pA l.length pc),(7,.int .i64 (n:Int)),(8,.pointer (some ⟨b2,0,none⟩)),(9,v),(55,.int .i64 (i:Int))])
  (λi v w'=>i<=64/\Ext w4 w'/\OwnR w' w4.heap.size v ((chL [] 2).take i)) (λi _=>64-i) 0 (.slice none 0 0) sB ⟨om,Ext.refl _,OwnR.nil _ _⟩ ?_
 rintro i v w5 ⟨hi,ai,hO⟩;refine ρ ?_;refine ci (λo=>?_) (λo=>?_)
 .have li:i<64:=by have:=oT o;omega
  clear o;have fl:((chL [] 2).take i).length=i:=by rw [List.length_take,Uz];omega
  refine ρ ?_;refine wquo rfl rfl (by decide) rfl ?_;rw [Int.tdiv_eq_ediv_of_nonneg om,Vp om];refine ρ ?_;refine Go.Wk.rem (b:=8) (by decide) ?_;rw [Int.tmod_eq_emod_of_nonneg om];refine ρ ?_;refine bsl (Uw _ _) ?_;intro w6 b6 ah fx e8;refine ρ ?_;refine cl (Jgn (zs:=[(i:Int) / 8,(i:Int) % 8]) (e8.rd rfl) (by show 2<=1000;decide)) ?_;rintro _ w7 ⟨⟨A7,c7,rfl,ef,_,ej⟩,bq,eb⟩;refine ρ ?_;refine bsl (λw=>Qzw (.slice A7 2 c7) w _ _ _ rfl) ?_;intro w8 b8 b3 fw e7;have ba:=(ah.trans bq).trans b3;have hr:RowX w8 (own w4.heap.size v) (.slice A7 2 c7) (nR ((i:Int) / 8) ((i:Int) % 8)):=by
   refine ⟨A7,c7,rfl,ef,(by show 2<=1100000;decide),Rd.ext ej b3,λ_ ad e hn=>?_⟩;have h1:=eb ad _ _ (by rw [e]);have h2:=ah.size;have h3:=ai.size;rcases hn with hn|hn
   .have hn:ad.block<w4.heap.size:=hn;omega
   .have:=(hO.lt ad.block hn).2;omega
  refine ρ ?_;refine appR (a:=w4) (ai.trans ba) ER (hO.ext ba) e7 hr om ?_;intro v9 w9 dj dx fp;rw [<-Qtf li]at dj;refine ρ ?_;exact Js (i+1) v9 sO ⟨om,dx,dj⟩ om
 have d4:i=64:=by have:=oF o;omega
 clear o;subst d4;have et:(chL [] 2).take 64=chL [] 2:=List.take_of_length_le (by rw [Uz];decide);rw [et]at hO;have br:=hO.rows (by rw [Uz];decide);obtain ⟨VA,vc,rfl⟩:=hO.form;refine ρ ?_;refine cl (Jdn (ar:=2) br) ?_;rintro u w6 ⟨ah,rv,e,rfl,⟨z,B,mm,d,rfl⟩,ed,cn⟩;obtain rfl:e=0:=ed (by decide) Qtg (by rw [Uz];decide);obtain ⟨_,_,ms,df,fj,ew,a9⟩:=cn rfl;have a9:=a9 (.inl (by rw [Uz];decide));obtain rfl:ms=chL [] 2:=Ic a9.1 Jbd a9.2;refine ρ ?_;refine alc Ud ?_;intro w7 dt bq de en;refine ρ ?_;refine stb (cs':=[.int .i64 z,.slice B mm d]) en ?_ (Vm (z:=z) (A:=B) (n:=mm) (c:=d));intro w8 em fq b3;have ag:Ext w6 w8:=b3 w6 bq de;have dh:Off (λk=>k<w5.heap.size∨w6.heap.size<=k) w6 λu=>RelV u (.agg #[.int .i64 z,.slice B mm d]) 2 (chL [] 2):=df.mono λk C h=>by omega
 obtain ⟨dw,c6,_⟩:=id dh.here;injection c6 with c6
 obtain ⟨rfl,rfl⟩:z=2/\dw=.slice B mm d:=by
  simpa [eq_comm] using c6
 have aj:=(ai.trans ah).trans ag;have ca:=cb.trans aj;have ax:=c2.ext aj;have dk:=au.ext aj;have cy:¬ dt=b2:=λe=>by have:=c2.lt;have:=(ai.trans ah).size;omega
 have da:w.heap.size<=b2:=nL ab.size dd;refine ρ ?_;rw [show ((n:Int)-1)=((n-1:Nat):Int) by omega];refine Qq (fun (i:Nat) (av:Value)=>[(2,.slice pA l.length pc),(7,.int .i64 (n:Int)),(8,.pointer (some ⟨b2,0,none⟩)),(11,.pointer (some ⟨dt,0,none⟩)),(12,.int .i64 0),(74,.int .i64 ((n-1:Nat):Int)),(75,.int .i64 (i:Int))])
  (λi av w'=>i<=n-1/\GrN (λk=>k=b2) w8 w'/\Blk w' b2 92 [.int .i64 (n:Int),.int .i64 (n:Int),.slice (some ⟨bD,0,none⟩) n n,.slice none 0 0,av]/\OwnM 99 3 AtG (λk=>k=b2) w' w8.heap.size av (chA i)) (λi _=>n-1-i) 0 (.slice none 0 0) sB
  ⟨Nat.zero_le _,GrN.refl _ _,ax,OwnM.nil _ _⟩ ?_
 rintro i av bp ⟨hi,a1,a2,aa⟩;have c0:=Jv em a1 cy;have af:Ext w bp:=a1.old ca λk C=>by rw [C];exact da
 have dq:b2<w5.heap.size:=nM c2.lt ai.size;refine ρ ?_;refine ci (λo=>?_) (λo=>?_)
 .have li:i<n-1:=by have:=oT o;omega
  clear o;refine ρ ?_;refine ld (a2.at (i:=4) rfl) ?_;refine ρ ?_;refine bsl (bs2I _ _) ?_;intro ff b7 be f2 d3;refine ρ ?_;refine lds (cs:=[.int .i64 2,.slice B mm d]) (λj u hu=>(c0.ext be).at hu) ?_;refine ρ ?_;refine bld (Jhw _ _ _ _ _ _ _ _) ?_;refine ρ ?_;refine bsl (Jbj _ _ _ _ _ _ _ _ _ _ rfl rfl rfl) ?_;intro dv g0 bd f0 d2;have G:=be.trans bd;obtain ⟨OA,oc,eo,_,b4⟩:=aa.form;have hΦ:Off (λk=>k=b2∨av.ownBlock=some k) dv (λu=>AtG u [.slice (some ⟨b7,0,none⟩) 2 2,.int .i64 2,.slice B mm d] ⟨nz (chV i),2,chL [] 2⟩):=by
   intro W hW;have cz:∀ k,(k=b2∨av.ownBlock=some k)->(k<w5.heap.size∨w6.heap.size<=k)/\k<bp.heap.size:=λk C=>by
    rcases C with rfl|C
    .exact ⟨.inl dq,a2.lt⟩
    .have:=b4 k C;exact ⟨.inr (nL ag.size this.1),this.2⟩
   have hg:GrN (λk=>k<w5.heap.size∨w6.heap.size<=k) w6 W:=((GrN.ext ag).trans ((a1.mono λk _ C=>(by rw [C];exact .inl dq:k<w5.heap.size∨w6.heap.size<=k)).trans (GrN.ext G))).trans (hW.mono λk _ C=>(cz k C).1);obtain ⟨rv,er,hr⟩:=dh W hg;injection er with er
   obtain rfl:rv=.slice B mm d:=by simpa [eq_comm] using er
   refine ⟨(.slice (some ⟨b7,0,none⟩) 2 2,.int .i64 2,.slice B mm d),rfl,⟨some ⟨b7,0,none⟩,2,by rw [Jvt];rfl,by rw [Jvt];exact Nat.le_refl _,by rw [Jvt];(show 2<=1100000);decide,?_⟩,rfl,hr⟩;rw [Jvt];exact (Jv (d3.ext bd) hW λC=>by have:=(cz b7 C).2;omega).rd rfl
  refine ρ ?_;refine apM EA (Φ:=AtG) (aa.ext G) d2 rfl (Kk rfl) hΦ (by rw [Jbg];omega) om (nL a1.size G.size) ?_;intro b1 ae ap bh ex;rw [<-Qtj]at ap;have ay:Blk ae b2 92 [.int .i64 (n:Int),.int .i64 (n:Int),.slice (some ⟨bD,0,none⟩) n n,.slice none 0 0,av]:=Jv (a2.ext G) (GrN.by bh λk C=>C) λC=>by have:=(b4 b2 C).1;have:=ax.lt;omega
  obtain ⟨OB,ob,eu,_,co⟩:=ap.form;refine ρ ?_;refine sto (ay.at (i:=4) rfl) (ay.frozen 4) ?_ (hv:=by rw [eu];rfl);have ao:GrN (λk=>k=b2) ae (ae.setCell ((⟨b2,0,none⟩:Addr).add 4) b1):=GrN.set _ rfl;have bo:Blk (ae.setCell ((⟨b2,0,none⟩:Addr).add 4) b1) b2 92 [.int .i64 (n:Int),.int .i64 (n:Int),.slice (some ⟨bD,0,none⟩) n n,.slice none 0 0,b1]:=ay.set 4 _;have bn:=ap.gr ao λg eg e=>by have:=(co g eg).1;have:=ax.lt;omega
  generalize (ae.setCell ((⟨b2,0,none⟩:Addr).add 4) b1)=w18 at ao bo bn
  have ea:GrN (λk=>k=b2) w8 w18:=by
   have h1:GrN (λk=>k=b2∨w8.heap.size<=k) w8 w18:=(((a1.mono λk _ h=>(.inl h:k=b2∨w8.heap.size<=k)).trans (GrN.ext G)).trans (GrN.by bh λk C=>.inr (b4 k C).1)).trans (ao.mono λk _ h=>.inl h);exact h1.mono λk C h=>h.elim id λh'=>by omega
  refine ρ ?_;exact Js (i+1) b1 sO ⟨om,ea,bo,bn⟩ om
 have e9:i=n-1:=by have:=oF o;omega
 clear o;subst e9;obtain ⟨OA,oc,rfl,e4,b4⟩:=aa.form;have hG:=aa.gv (by rw [Jbg];omega);rw [Jbg]at hG e4 a2;have aw:=Jv dk a1 λe=>c9 e.symm;have el:BoolsV bp (.slice (some ⟨bD,0,none⟩) n n) ds:=⟨some ⟨bD,0,none⟩,n,by rw [bs],om,om,aw.rd (by simp)⟩;refine ρ ?_;refine ldW a2 ?_;refine ρ ?_;refine cl (Qth (hTB.ext af) cx om bs el hG) ?_;rintro u c8 ⟨ck,x,st,rfl,⟨XA,xd,YA,yd,ZA,zd,UA,ud,TA,tn,tc,rfl⟩,bg⟩;refine ρ ?_;refine alc Iq ?_;intro fe fz cj db d1;refine ρ ?_;refine stW d1 ?_;intro du an ey ch;have a8:Ext c8 du:=ch c8 cj db;have a5:=ck.trans a8;have Z:=af.trans a5;obtain ⟨kf,pf,BB,tot,aq⟩:=(bg.ext a8).here ⟨B0,hTB.ext Z⟩;clear bg;have cm:tot=8^n:=by rw [aq.ip.len,Uz]
 have fy:8^n<=8^8:=Nat.pow_le_pow_right (by decide) cw;have c4:=a2.ext a5;have bz:=aw.ext a5;refine ρ ?_;refine cl (Jvw 8 (by decide) _) ?_;rintro o8 fd ⟨e5,cg⟩;refine ρ ?_;refine cl (Qgb e5 cx cw) ?_;rintro _ fc ⟨⟨o9,rfl,cr⟩,ce⟩;have a7:=cg.trans ce;have bm:=hP.ext (Z.trans a7);have e3:val l<4294967296^4:=nM (Jzk l) (Nat.pow_le_pow_right (by decide) e6);refine ρ ?_;refine cl (Qld (n:=val l) (m:=8^n) ((Gx bm hpc om).mono λv' w' hh=>?_) cr ?_ (Nat.pow_pos (by decide)) om) ?_
 .obtain ⟨rfl,rfl⟩:=hh;obtain ⟨A',c',e,_,_,h⟩:=Ge bm om;injection e with e1 _ _
  subst e1;exact ⟨⟨pA,rfl,h⟩,rfl⟩
 .exact (Nb.pow (k:=1) (by rw [Nat.pow_one];exact nL (Nat.le_of_lt e3) (by decide)) om).len
 rintro _ fb ⟨⟨qv,kv,rfl,_,b5⟩,bc⟩;obtain ⟨k,C⟩:∃ k,k=val l % 8^n:=⟨_,rfl⟩;have d0:k<8^n:=by rw [C];exact Nat.mod_lt _ (Nat.pow_pos (by decide))
 rw [<-C]at b5;have a4:=a7.trans bc;have bu:=aq.ext a4;refine ρ ?_;refine ldW (an.ext a4) ?_;refine ρ ?_;refine cl (Jyj bu.ix aq.ip.nbT) ?_;rintro fi fa ⟨cv,_,bb⟩;refine ρ ?_;refine cl (Un cv ((cr.ext bc).ext bb)) ?_;rintro _ f9 ⟨rfl,cd⟩;rw [cm,show Zg (8^n) (8^n)=0 by unfold Zg;rw [if_neg (Nat.lt_irrefl _),if_neg (Nat.lt_irrefl _)]];have J:=bb.trans cd;have a3:=a4.trans J;refine ρ ?_;refine ldW (an.ext a3) ?_;refine ρ ?_;refine cl (Qwd (aq.ext a3) (b5.ext J)) ?_;rintro u f8 ⟨am,c5⟩;unfold AtR at c5;rw [Jhs d0]at c5;obtain ⟨A1,c1,fh,rfl,di,d8,_,_⟩:=c5;rw [Yq]at d8;rw [Yq];have U:=a3.trans am;obtain ⟨ee,e2⟩:=Qsj (ds:=ds) d0;have hQ:=Jql (q:=Zq ds n k) (pc:=c1) (hTB.ext (Z.trans U)) (aq.ext U) di (by rw [Yq];exact d8);rw [Yq]at hQ;refine ρ ?_;refine ldW (an.ext U) ?_;refine ρ ?_;refine cl hQ ?_;rintro u f7 ⟨a6,_,ec⟩;obtain ⟨bv,fg,rfl,d9,_⟩:=ec rfl
 rw [ee]at d9;rw [decide_eq_true e2];refine ρ ?_;refine cl (Un d9 ((b5.ext (J.trans am)).ext a6)) ?_;rintro _ f6 ⟨rfl,ak⟩;rw [show Zg k k=0 by unfold Zg;rw [if_neg (Nat.lt_irrefl _),if_neg (Nat.lt_irrefl _)]];have O:=(U.trans a6).trans ak;refine ρ ?_;refine ci (λo=>?_) (λo=>?_)
 .exfalso
  simp at o
 clear o;refine ρ ?_;refine cl (Qhx (((b5.ext (J.trans am)).ext a6).ext ak) om) ?_;rintro _ ac ⟨rfl,rfl⟩;have bj:RdR ac A1 (Zq ds n k):=Rd.ext di (a6.trans ak);have c3:=c4.ext O;have bw:=bz.ext O;refine ρ ?_;refine Qn (fun (t:Nat)=>[(8,.pointer (some ⟨b2,0,none⟩)),(22,.slice A1 n c1),(29,.int .u64 ((k / 8^t:Nat):Int)),(31,.int .i64 ((n:Int)-1-(t:Int)))]) (λt w'=>t<=n/\ac=w') (λt=>n-t) 0 ?_ ⟨Nat.zero_le _,rfl⟩ ?_
 .rw [Nat.pow_zero,Nat.div_one];exact sO
 rintro t f5 ⟨ht,rfl⟩;refine ρ ?_;refine ci (λo=>?_) (λo=>?_)
 .have lt:t<n:=by have:=oT o;omega
  clear o;have fo:k / 8^t<=k:=Nat.div_le_self _ _;have h8:k / 8^t % 8<8:=Nat.mod_lt _ (by decide);have bi:dgt ds n k (n-1-t)=dgV (ds.getD (n-1-t) false) (k / 8^t % 8):=by unfold dgt;rw [show n-1-(n-1-t)=t by omega]
  refine ρ ?_;refine wrem rfl rfl (by decide) rfl ?_;rw [show ((k / 8^t:Nat):Int).tmod 8=((k / 8^t % 8:Nat):Int) from rfl];refine ρ ?_;rw [Vp (z:=((k / 8^t % 8:Nat):Int)) om];refine ld (c3.at (i:=2) rfl) ?_;refine ρ ?_;have dg:Rd ac 1 (some ⟨bD,0,none⟩) n (ds.map Value.bool):=bw.rd (by simp [bs]);have eh:(ds.map Value.bool)[n-1-t]?=some (.bool (ds.getD (n-1-t) false)):=by simp [List.getD,show n-1-t<ds.length by omega]
  refine ix (n-1-t) dg om ?_;refine ρ ?_;refine ld (dg.cell eh) ?_;refine ρ ?_;refine Xl (fun (q:Nat)=>[(32,.int .i64 (q:Int)),(8,.pointer (some ⟨b2,0,none⟩)),(22,.slice A1 n c1),(29,.int .u64 ((k / 8^t:Nat):Int)),(31,.int .i64 ((n:Int)-1-(t:Int)))]) (λq w'=>ac=w'/\q=dgt ds n k (n-1-t)) ?_ ?_
  .refine ci (λo=>?_) (λo=>?_)
   .refine ρ ?_;rw [show (7-((k / 8^t % 8:Nat):Int))=((7-k / 8^t % 8:Nat):Int) by omega];exact Jh (7-k / 8^t % 8) sB ⟨rfl,by rw [bi,o];rfl⟩
   .refine ρ ?_;exact Jh (k / 8^t % 8) sB ⟨rfl,by rw [bi,o];rfl⟩
  rintro q f4 ⟨rfl,rfl⟩;have d7:n-1-t<(Zq ds n k).length:=by rw [Yq];omega
  have ek:Rd ac 3 A1 n (Jl (Zq ds n k)):=by
   have:=bj;unfold RdR at this;rw [Yq]at this;exact this
  have bt:=RdR.cell bj d7 (j:=1) (u:=.int .i64 (dgt ds n k (n-1-t):Int)) (by rw [Jkw om];rfl);refine ρ ?_;refine ixq 3 (n-1-t) ek om ?_;refine ρ ?_;refine ld bt ?_;refine ρ ?_;refine ci (λo=>?_) (λo=>?_)
  .exfalso
   simp at o
  clear o;refine ρ ?_;refine wquo rfl rfl (by decide) rfl ?_;have e1:IntKind.u64.wrap (((k / 8^t:Nat):Int).tdiv 8)=((k / 8^(t+1):Nat):Int):=by
   rw [show ((k / 8^t:Nat):Int).tdiv 8=((k / 8^t / 8:Nat):Int) from rfl,Nat.div_div_eq_div_mul,<-Nat.pow_succ];have hq:k / 8^(t+1)<=k:=Nat.div_le_self _ _;generalize k / 8^(t+1)=q at hq ⊢
   exact Ug om
  rw [e1];refine ρ ?_;exact Qy (t+1) sO ⟨om,rfl⟩ om
 .clear o;refine ρ ?_;refine cl (Jlg (hTB.ext (Z.trans O))) ?_;rintro _ f3 ⟨rfl,cc⟩;refine ρ ?_;exact Jq ⟨rfl,(Z.trans O).trans cc⟩
end Go.Proofs.YtebcagekopgdhaaGreatDoor
namespace Go.Proofs.YtebcagekopgdhaaGreatDoor
open Go.RowKit Pl Go.Wk Go.ChangeShapes Go.WideShapes
variable {p:List MemPlace}{u v:Value}
section
variable {H:Type} {enc:TypeId×Value->H} {w:World} {base b0:Nat} {spare:Nat->Bool} {held:Bool}
def Qvg(w:World)(v:Value): Prop:=∃ (A:Option Addr) (c:Nat) (l:List Bool),v=.slice A l.length c/\Rd w 1 A l.length (l.map Value.bool)
def Qvb(w:World)(v:Value): Prop:=∃ (A:Option Addr) (c:Nat) (l:List UInt32),v=.slice A l.length c/\l.length<=c/\Rd w 1 A l.length (Nc l)
theorem Qhd{d:DataW H}(hv:Value.okWide Tryz.prog w .any b0 24 v)(h:DataW.Trod enc Tryz.prog w base spare held 24 v d p): Qvg w v:=by
 obtain ⟨a,len,o,rfl⟩:=okWide_slice Tryz.underlying24 hv;obtain ⟨C,J⟩:=h;obtain ⟨l,A,c,e,u,_,_,_⟩:=Jsw (sz:=1) (B:=Rows.uptoBulk d) (λz:Bool=>[Value.bool z]) (λ_=>True) Tryz.underlying24 kr (Nat.le_refl _) (λn U y G _=>by obtain ⟨z,e,_⟩:=DataW.trod_bool Tryz.underlying4 G;exact ⟨z,e,trivial⟩) J;rw [Qqh]at u;have O:Value.slice a len o=.slice A l.length c:=by
  injection e
 exact ⟨A,c,l,O,u⟩
theorem Qhc{d:DataW H}(hv:Value.okWide Tryz.prog w .any b0 29 v)(h:DataW.Trod enc Tryz.prog w base spare held 29 v d p): Qvb w v:=by
 obtain ⟨a,len,o,rfl⟩:=okWide_slice Tryz.underlying29 hv;obtain ⟨C,O⟩:=h;obtain ⟨l,A,c,e,u,_,U,_⟩:=Jsw (sz:=1) (B:=Rows.uptoBulk d) (λz:UInt32=>[Value.int .u32 (z.toNat:Int)]) (λ_=>True) Tryz.underlying29 kr (Nat.le_refl _) (λn a1 y J _=>by
  obtain ⟨z,e,_,G⟩:=DataW.trod_int Tryz.underlying110 J;have hb:=bounds_u32 G;refine ⟨UInt32.ofNat z.toNat,?_,trivial⟩;rw [e,UInt32.toNat_ofNat',Nat.mod_eq_of_lt om,show ((z.toNat:Nat):Int)=z by omega]) O
 rw [Qqh]at u;have Z:Value.slice a len o=.slice A l.length c:=by
  injection e
 exact ⟨A,c,l,Z,U,u⟩
end
theorem Qfm{B0:Nat}{w:World}{a:Int}(hTB:TB B0 w)(ha:0<=a/\a<=255)(hu:Qvg w u)(hv:Qvb w v): Ret Tryz.prog 11 [.int .u8 a,u,v] w λu w'=>u=.bool true/\Ext w w':=by
 obtain ⟨A,c,l,rfl,G⟩:=hu;obtain ⟨B,d,m,rfl,C,o⟩:=hv;exact Qfn hTB ha G o C
end Go.Proofs.YtebcagekopgdhaaGreatDoor
