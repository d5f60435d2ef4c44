/- Part 34. -/
import Derived.Test.YtebcagekopgdhaaGreatDoorB33
set_option linter.unusedVariables false
set_option maxRecDepth 100000
set_option maxHeartbeats 40000000
namespace Go.Proofs.YtebcagekopgdhaaGreatDoor
open Pl Go.Wk
def Qs: Nat->(Nat->Nat)->Nat
 | 0,_=>0
 | n+1,g=>Qs n g+g n
theorem Jbf{n:Nat}{g h:Nat->Nat}(e:∀ c,c<n->g c=h c): Qs n g=Qs n h:=by
 induction n with
 | zero=>rfl
 | succ n ih=>rw [Qs,Qs,ih (λc o=>e c om),e n om]
theorem Jlp(n:Nat)(g h:Nat->Nat): Qs n (λc=>g c+h c)=Qs n g+Qs n h:=by
 induction n with
 | zero=>rfl
 | succ n ih=>rw [Qs,Qs,Qs,ih];omega
theorem Jln{n:Nat}{g:Nat->Nat}(e:∀ c,c<n->g c=0): Qs n g=0:=by
 induction n with
 | zero=>rfl
 | succ n ih=>rw [Qs,ih (λc o=>e c om),e n om]
theorem Qwt{n k:Nat}(g:Nat->Nat)(hk:k<n): g k<=Qs n g:=by
 induction n with
 | zero=>omega
 | succ n ih=>
  rw [Qs];by_cases e:k=n
  .subst e;omega
  .have:=ih om;omega
theorem Qws{n v:Nat}(x:Nat)(hv:v<n): Qs n (λc=>if c=v then x else 0)=x:=by
 induction n with
 | zero=>omega
 | succ n ih=>
  rw [Qs];by_cases e:v=n
  .subst e;rw [if_pos rfl,Jln λc o=>if_neg om];omega
  .rw [if_neg (λh=>e h.symm),ih om];omega
theorem pw2(a b s t:Nat)(h:a*s<=b*t): (2^a)^s<=(2^b)^t:=by
 rw [<-Nat.pow_mul,<-Nat.pow_mul];exact Nat.pow_le_pow_right (by decide) h
theorem Jgp{T T':Nat->Row->Nat}{x:Row}: ∀ {l:List (Nat×List Nat)},(∀ p∈l,T p.1=T' p.1)->wtL T x l=wtL T' x l
 | [],_=>rfl
 | p::l,h=>by rw [wtL,wtL,h p mC,Jgp λq hq=>h q (List.mem_cons_of_mem _ hq)]
section
variable (n f:Nat) (kf:Nat->Nat) (pf:Nat->Int) (R:Nat->List Row) (ds:List Bool)
def lastC(v:Nat): Nat:=(bk (kf v ||| 2^v) 32).length-1
noncomputable def Gw(T:Nat->Row->Nat)(v:Nat): Row->Nat :=
 if v<n then (if v<f then Ye (Zt (ds.getD v false) (λx=>wtL T x (chK kf pf v n)) (lastC kf v) (R v)) else Yc (R v) (Zq kf v) λx=>wtL T x (chK kf pf v n)) else λ_=>0
noncomputable def TF: Nat->Nat->Row->Nat
 | 0=>λ_ _=>0
 | s+1=>λv=>Gw n f kf pf R ds (TF s) v
noncomputable def TV(pl:Nat->Nat)(v:Nat): Row->Nat:=TF n f kf pf R ds (pl v+1) v
variable {n f:Nat} {kf:Nat->Nat} {pf:Nat->Int} {R:Nat->List Row} {ds:List Bool}
theorem Jlq{T T':Nat->Row->Nat}{v:Nat}(h:∀ c,c<n->pf c=(v:Int)->T c=T' c): Gw n f kf pf R ds T v=Gw n f kf pf R ds T' v:=by
 have e:(λx=>wtL T x (chK kf pf v n))=λx=>wtL T' x (chK kf pf v n):=by
  funext x
  exact Jgp λp o=>by obtain ⟨C,u,_⟩:=Ig o;exact h _ C u
 unfold Gw;rw [e]
def ChF(n:Nat)(pf:Nat->Int)(pl:Nat->Nat): Prop:=∀ c v:Nat,c<n->pf c=(v:Int)->v<n/\pl c<pl v
theorem Qxv{pl:Nat->Nat}(hch:ChF n pf pl): ∀ (s s' v:Nat),v<n->pl v<s->pl v<s'->TF n f kf pf R ds s v=TF n f kf pf R ds s' v
 | 0,_,_,_,h,_=>by omega
 | s+1,0,_,_,_,h=>by omega
 | s+1,s'+1,v,hv,h1,h2=>Jlq λc hc hp=>by
  have:=(hch c v hc hp).2;exact Qxv hch s s' c hc om om
theorem Qxt{pl:Nat->Nat}(hch:ChF n pf pl){v:Nat}(hv:v<n): TV n f kf pf R ds pl v=Gw n f kf pf R ds (TV n f kf pf R ds pl) v :=
 Jlq λc o u=>by
  have:=(hch c v o u).2;exact Qxv hch (pl v) (pl c+1) c o om om
theorem Qxr{pl:Nat->Nat}{v:Nat}(hv:¬ v<n)(k:Row): TV n f kf pf R ds pl v k=0:=by
 show Gw n f kf pf R ds _ v k=0;unfold Gw;rw [if_neg hv]
theorem Jyc{pl:Nat->Nat}(hch:ChF n pf pl)(hfn:f<=n){v:Nat}(hv:v<f): TV n f kf pf R ds pl v=Ye (Zt (ds.getD v false) (λx=>wtL (TV n f kf pf R ds pl) x (chK kf pf v n)) (lastC kf v) (R v)):=by
 rw [Qxt hch om];unfold Gw;rw [if_pos om,if_pos hv]
theorem Jkk{pl:Nat->Nat}(hch:ChF n pf pl){v:Nat}(hv:v<n)(hf:f<=v): TV n f kf pf R ds pl v=Yc (R v) (Zq kf v) λx=>wtL (TV n f kf pf R ds pl) x (chK kf pf v n):=by
 rw [Qxt hch hv];unfold Gw;rw [if_pos hv,if_neg om]
section
variable (n) (pf)
def stF: Nat->Nat->Nat
 | 0=>λ_=>0
 | s+1=>λv=>1+Qs n λc=>if pf c=(v:Int) then stF s c else 0
def stV(pl:Nat->Nat)(v:Nat): Nat:=stF n pf (pl v+1) v
end
theorem Jlt{pl:Nat->Nat}(hch:ChF n pf pl): ∀ (s s' v:Nat),v<n->pl v<s->pl v<s'->stF n pf s v=stF n pf s' v
 | 0,_,_,_,h,_=>by omega
 | s+1,0,_,_,_,h=>by omega
 | s+1,s'+1,v,hv,h1,h2=>by
  show 1+_=1+_;congr 1
  refine Jbf λc hc=>?_;split
  .rename_i hp;have:=(hch c v hc hp).2;exact Jlt hch s s' c hc om om
  .rfl
theorem Jls{pl:Nat->Nat}(hch:ChF n pf pl){v:Nat}(hv:v<n): stV n pf pl v=1+Qs n λc=>if pf c=(v:Int) then stV n pf pl c else 0:=by
 show 1+_=1+_;congr 1
 refine Jbf λc o=>?_;split
 .rename_i hp;have:=(hch c v o hp).2;exact Jlt hch (pl v) (pl c+1) c o om om
 .rfl
theorem Jlr{pl:Nat->Nat}(hch:ChF n pf pl)(hpf:∀ c,c<n->pf c = -1∨∃ p:Nat,pf c=p/\p<n)(hin:∀ u v,u<n->v<n->pl u=pl v->u=v)(hat:∀ i,i<n->∃ v,v<n/\pl v=i):
  ∀ i,i<=n->Qs n (λc=>if pl c<i/\(pf c = -1∨i<=pl (pf c).toNat) then stV n pf pl c else 0)=i
 | 0,_=>Jln λc _=>if_neg om
 | i+1,hi=>by
  have ih:=Jlr hch hpf hin hat i om;obtain ⟨v,hv,hpv⟩:=hat i om;have e1:Qs n (λc=>(if pl c<i+1/\(pf c = -1∨i+1<=pl (pf c).toNat) then stV n pf pl c else 0)+if pf c=(v:Int) then stV n pf pl c else 0)=Qs n (λc=>(if pl c<i/\(pf c = -1∨i<=pl (pf c).toNat) then stV n pf pl c else 0)+if c=v then stV n pf pl v else 0):=by
   refine Jbf λc hc=>?_;by_cases ec:c=v
   .subst ec;have hne:pf c≠(c:Int):=λe=>by have:=(hch c c hc e).2;omega
    rw [if_neg hne,if_pos rfl,if_neg (show ¬ (pl c<i/\_) by omega)];rw [if_pos]
    .omega
    refine ⟨om,?_⟩;rcases hpf c hc with h|⟨p,h,_⟩
    .exact .inl h
    .have:=(hch c p hc h).2;rw [h];right;simp only [Int.toNat_natCast];omega
   .rw [if_neg ec];have hnp:pl c≠i:=λe=>ec (hin c v hc hv om);by_cases ep:pf c=(v:Int)
    .have h1:=(hch c v hc ep).2;have h2:pl (pf c).toNat=i:=by rw [ep];simp only [Int.toNat_natCast];exact hpv
     rw [if_pos ep,if_neg (show ¬ (pl c<i+1/\(pf c = -1∨i+1<=pl (pf c).toNat)) by omega),if_pos (show pl c<i/\(pf c = -1∨i<=pl (pf c).toNat) from ⟨om,.inr om⟩)];omega
    .rw [if_neg ep];have h3:(pl c<i+1/\(pf c = -1∨i+1<=pl (pf c).toNat))↔(pl c<i/\(pf c = -1∨i<=pl (pf c).toNat)):=by
      rcases hpf c hc with h|⟨p,h,hp⟩
      .simp only [h,true_or,and_true];omega
      .have h4:pl p≠i:=λe=>ep (by rw [h,hin p v hp hv om]);rw [h];simp only [Int.toNat_natCast];omega
     simp only [h3]
  rw [Jlp,Jlp,Qws _ hv,ih,Jls hch hv]at e1;omega
theorem Qvh{pl:Nat->Nat}(hch:ChF n pf pl)(hpf:∀ c,c<n->pf c = -1∨∃ p:Nat,pf c=p/\p<n)(hin:∀ u v,u<n->v<n->pl u=pl v->u=v)(hat:∀ i,i<n->∃ v,v<n/\pl v=i)(hpl:∀ v,v<n->pl v<n){v:Nat}(hv:v<n): stV n pf pl v<=n:=by
 have G:=Jlr hch hpf hin hat (pl v+1) (hpl v hv);have o:=Qwt (n:=n) (λc=>if pl c<pl v+1/\(pf c = -1∨pl v+1<=pl (pf c).toNat) then stV n pf pl c else 0) hv;rw [G]at o;have C:pl v<pl v+1/\(pf v = -1∨pl v+1<=pl (pf v).toNat):=by
  refine ⟨om,?_⟩;rcases hpf v hv with h|⟨p,h,_⟩
  .exact .inl h
  .have:=(hch v p hv h).2;rw [h];right;simp only [Int.toNat_natCast];omega
 simp only [C,and_self,if_true]at o;have:=hpl v hv;omega
theorem Jgn{T:Nat->Row->Nat}{x:Row}{st:Nat->Nat}{kf:Nat->Nat}{pf:Nat->Int}{v n:Nat}(hT:∀ c,c<n->pf c=(v:Int)->∀ k,T c k<=65536^st c): ∀ k,k<=n->wtL T x (chK kf pf v k)<=65536^Qs k (λc=>if pf c=(v:Int) then st c else 0)
 | 0,_=>Nat.le_refl _
 | k+1,hk=>by
  have ih:=Jgn (T:=T) (x:=x) (kf:=kf) hT k om;rw [Jvv,Jxn,Qs,Nat.pow_add];refine Nat.mul_le_mul ih ?_;split
  .rename_i hp;rw [wtL,wtL,Nat.mul_one];exact hT k om hp _
  .exact Nat.le_refl _
theorem Jlj{wt:Row->Nat}{m S:Nat}(h:∀ x,wt x<=S)(k:Row): ∀ rs:List Row,tot (Qp wt m rs k)<=rs.length*S
 | []=>by simp [Qp,tot]
 | x::rs=>by
  have ih:=Jlj (m:=m) h k rs;have e:tot (Qp wt m (x::rs) k)<=wt x+tot (Qp wt m rs k):=by
   unfold Qp;rw [List.filter_cons];split
   .rw [List.map_cons,tot];exact Nat.le_refl _
   .omega
  have:=h x;rw [List.length_cons,Nat.succ_mul];omega
theorem Qxs{pl:Nat->Nat}(hch:ChF n pf pl)(hfn:f<=n)(hlt:∀ v,v<f->Lt [] (R v))(hl:∀ v,v<f->∀ y∈R v,y.length=lastC kf v+1)(hR:∀ v,v<n->(R v).length<=65536):
  ∀ (s v:Nat),v<n->pl v<s->∀ k,TV n f kf pf R ds pl v k<=65536^stV n pf pl v
 | 0,_,_,h,_=>by omega
 | s+1,v,hv,hs,k=>by
  have hW:∀ x,wtL (TV n f kf pf R ds pl) x (chK kf pf v n)<=65536^Qs n (λc=>if pf c=(v:Int) then stV n pf pl c else 0):=λx=>
   Jgn (λc hc hp k=>Qxs hch hfn hlt hl hR s c hc (by have:=(hch c v hc hp).2;omega) k) n (Nat.le_refl _)
  rw [Jls hch hv,Nat.pow_add,Nat.pow_one];by_cases hf:v<f
  .rw [Jyc hch hfn hf,Jbb,(Jzn (hlt v hf) (hl v hf)).entK,Jvq];exact nL (Jlj hW k _) (nO _ (hR v hv))
  .rw [Jkk hch hv om];refine nL Jnk ?_;exact Nat.mul_pos (by decide) (Nat.pow_pos (by decide))
theorem Jgf{pl:Nat->Nat}(hch:ChF n pf pl)(c:Nat)(hc:f<=c)(k:Row): TV n f kf pf R ds pl c k<=1:=by
 by_cases h:c<n
 .rw [Jkk hch h hc];exact Jnk
 .rw [Qxr h];omega
theorem Qrj{pl:Nat->Nat}(hch:ChF n pf pl)(hfn:f<=n)(hn:n<=32)(hpf:∀ c,c<n->pf c = -1∨∃ p:Nat,pf c=p/\p<n)(hin:∀ u v,u<n->v<n->pl u=pl v->u=v)(hat:∀ i,i<n->∃ v,v<n/\pl v=i)(hpl:∀ v,v<n->pl v<n)(hlt:∀ v,v<f->Lt [] (R v))(hl:∀ v,v<f->∀ y∈R v,y.length=lastC kf v+1)(hR:∀ v,v<n->(R v).length<=65536)(c:Nat)(k:Row): TV n f kf pf R ds pl c k<=4294967296^20:=by
 by_cases h:c<n
 .refine nL (Qxs hch hfn hlt hl hR (pl c+1) c h om k) ?_;have C:=Qvh hch hpf hin hat hpl h;have o:=pw2 16 32 (stV n pf pl c) 20 om;rw [show (65536:Nat)=2^16 by decide,show (4294967296:Nat)=2^32 by decide];exact o
 .rw [Qxr h];omega
end
open Pl Go.Wk
structure ElR(n f m:Nat)(es perm:List Nat)(vars:Nat->List Nat)(rs:Nat->List Row)(kf:Nat->Nat)(pf:Nat->Int)(R:Nat->List Row): Prop where
 pm:PermOk n f perm
 n32:n<=32
 lt:∀ i,i<m->∀ v∈vars i,v<n
 len:∀ i,i<m->∀ r∈rs i,r.length=(vars i).length
 el:es.length=m
 eb:∀ i,i<m->∀ u,(es.getD i 0).testBit u=true↔u∈vars i
 ep:∀ e∈es,e<2^n
 bags:Jkm n es (Xj perm f) kf pf
 rows:∀ v,v<n->Jyf n m vars rs (kf v ||| 2^v) (R v)
section
variable {n f m:Nat} {es perm:List Nat} {vars:Nat->List Nat} {rs:Nat->List Row} {kf:Nat->Nat} {pf:Nat->Int} {R:Nat->List Row} {ds:List Bool}
abbrev plO(perm:List Nat)(f:Nat): Nat->Nat:=plc (Xj perm f)
theorem PermOk.plN(h:PermOk n f perm){v:Nat}(hv:v<n): plO perm f v<n:=by
 have:=(Ud h.ond (h.omem.2 hv)).1;rw [h.olen]at this;exact this
theorem PermOk.inj(h:PermOk n f perm){u v:Nat}(hu:u<n)(hv:v<n)(e:plO perm f u=plO perm f v): u=v:=by
 rw [<-(Ud h.ond (h.omem.2 hu)).2,<-(Ud h.ond (h.omem.2 hv)).2];show (Xj perm f).getD (plO perm f u) 0=(Xj perm f).getD (plO perm f v) 0;rw [e]
theorem PermOk.hits(h:PermOk n f perm){i:Nat}(hi:i<n): ∃ v,v<n/\plO perm f v=i:=by
 have o:i<(Xj perm f).length:=by rw [h.olen];exact hi
 exact ⟨(Xj perm f).getD i 0,h.olt (getD_mem' 0 _ o),Iy h.ond o⟩
theorem PermOk.plPerm(h:PermOk n f perm){i:Nat}(hi:i<perm.length): plO perm f (perm.getD i 0)=i:=by
 have o:i<(Xj perm f).length:=by simp [Xj];omega
 have e:(Xj perm f).getD i 0=perm.getD i 0:=by simp [Xj,List.getD,List.getElem?_append_left hi]
 rw [<-e];exact Iy h.ond o
theorem PermOk.plFree(h:PermOk n f perm){u:Nat}(hu:u<f): plO perm f u=perm.length+(f-1-u):=by
 have o:perm.length+(f-1-u)<(Xj perm f).length:=by simp [Xj];omega
 have e:(Xj perm f).getD (perm.length+(f-1-u)) 0=u:=by
  simp only [Xj,List.getD];rw [List.getElem?_append_right om,Nat.add_sub_cancel_left,List.getElem?_reverse (by simp;omega),List.length_range,List.getElem?_range om];simp only [Option.getD_some];omega
 have:=Iy h.ond o;rw [e]at this;exact this
theorem PermOk.plLow(h:PermOk n f perm){u v:Nat}(hu:u<f)(hv:f<=v)(hn:v<n): plO perm f v<plO perm f u:=by
 have C:v∈perm:=by
  have:=h.omem.2 hn;rcases List.mem_append.1 this with o|o
  .exact o
  .have:=List.mem_range.1 (List.mem_reverse.1 o);omega
 obtain ⟨i,hi,e⟩:=List.getElem_of_mem C;have o:=h.plPerm hi;rw [Jp 0 _ hi,e]at o;rw [o,h.plFree hu];omega
theorem ElR.inv(h:ElR n f m es perm vars rs kf pf R): NbInv [] (nb0 n es):=Jpw h.ep
theorem ElR.kbit(h:ElR n f m es perm vars rs kf pf R){v u:Nat}(hv:v<n)(hu:(kf v).testBit u=true): u<n/\plO perm f v<plO perm f u:=by
 obtain ⟨_,U,_⟩:=h.bags v hv;rw [U]at hu;have o:u<n:=Jvc (nb:=nb0 n es) (ord:=Xj perm f) (N:=n) (λa b C=>(Jqg h.ep C).2.1) hu;obtain ⟨O,J⟩:=Jdj h.inv h.pm.ond (h.pm.omem.2 hv) hu;have G:=(Jdh h.pm.ond (h.pm.omem.2 hv) (h.pm.omem.2 o)).1 O;refine ⟨o,?_⟩;rcases Nat.lt_or_ge (plO perm f v) (plO perm f u) with h6|h6
 .exact h6
 .exact absurd (h.pm.inj o hv (Nat.le_antisymm h6 G)) J
theorem ElR.kmem(h:ElR n f m es perm vars rs kf pf R){v u:Nat}(hv:v<n): u∈bk (kf v) 32↔(kf v).testBit u=true:=by
 rw [bk_mem];have:=h.n32;exact ⟨λo=>o.2,λo=>⟨by have:=(h.kbit hv o).1;omega,o⟩⟩
theorem ElR.par(h:ElR n f m es perm vars rs kf pf R){v:Nat}(hv:v<n): (pf v = -1/\∀ u,(kf v).testBit u=false)∨∃ p:Nat,pf v=p/\(kf v).testBit p=true/\∀ u,(kf v).testBit u=true->plO perm f p<=plO perm f u:=by
 obtain ⟨_,G,o⟩:=h.bags v hv;rcases o with ⟨o,C⟩|⟨p,o,C,h5⟩
 .exact .inl ⟨o,λu=>by rw [G];exact C u⟩
 .exact .inr ⟨p,o,by rw [G];exact C,λu J=>h5 u (by rw [<-G];exact J)⟩
theorem ElR.chf(h:ElR n f m es perm vars rs kf pf R): ChF n pf (plO perm f):=λc v C u=>by
 rcases h.par C with ⟨o,_⟩|⟨p,o,h2,_⟩
 .rw [o]at u;omega
 .have e:p=v:=by rw [o]at u;omega
  subst e;exact h.kbit C h2
theorem ElR.sub(h:ElR n f m es perm vars rs kf pf R){c v u:Nat}(hc:c<n)(hp:pf c=(v:Int))(hu:(kf c).testBit u=true): (kf v ||| 2^v).testBit u=true:=by
 have C:=(h.chf c v hc hp).1;rw [Nat.testBit_or,Nat.testBit_two_pow,Bool.or_eq_true,decide_eq_true_eq];by_cases e:u=v
 .exact .inr e.symm
 .refine .inl ?_;obtain ⟨_,J,_⟩:=h.bags c hc;obtain ⟨_,G,_⟩:=h.bags v C;rcases h.par hc with ⟨O,_⟩|⟨p,O,h2,h3⟩
  .rw [O]at hp;omega
  .have ev:p=v:=by rw [O]at hp;omega
   subst ev;rw [G];refine Qfr h.inv h.pm.ond (h.pm.omem.2 hc) (h.pm.omem.2 C) (by rw [<-J];exact h2) (λx U=>?_) (by rw [<-J];exact hu) e;have o:(kf c).testBit x=true:=by rw [J];exact U
   exact (Jdh h.pm.ond (h.pm.omem.2 C) (h.pm.omem.2 (h.kbit hc o).1)).2 (h3 x o)
theorem Qgq{s t:Nat}(h:∀ u,t.testBit u=true->s.testBit u=true): inS (bk s 32) t=bk t 32:=by
 unfold inS bk;rw [List.filter_filter];refine List.filter_congr λu _=>?_;cases e:t.testBit u with
 | false=>simp
 | true=>simp [h u e]
theorem Jck{s t:Nat}(h:∀ u,t.testBit u=true->s.testBit u=true)(z:Row): pmR (Qg (bk s 32) t) (pmR (bk s 32) z)=pmR (bk t 32) z:=by
 have:=Jpc (bk s 32) t z (bk s 32).length (Nat.le_refl _);rw [List.take_length,Qgq h]at this;exact this
theorem ElR.last(h:ElR n f m es perm vars rs kf pf R){v:Nat}(hv:v<f): bk (kf v ||| 2^v) 32=bk (kf v) 32++[v]:=by
 have hn:=h.n32;have J:=h.pm.fn;have o:∀ u,(kf v).testBit u=true->u<v:=λu G=>by
  obtain ⟨C,O⟩:=h.kbit om G;rcases Nat.lt_or_ge u f with h3|h3
  .rw [h.pm.plFree hv,h.pm.plFree h3]at O;omega
  .have:=h.pm.plLow hv h3 C;omega
 have e:∀ k,bk (kf v ||| 2^v) k=bk (kf v) k++if v<k then [v] else []:=by
  intro k;induction k with
  | zero=>rfl
  | succ k ih=>
   rw [Uy,Uy,ih,Nat.testBit_or,Nat.testBit_two_pow];by_cases e:v=k
   .subst e;rw [if_neg (Nat.lt_irrefl v),if_pos (Nat.lt_succ_self v)];have:(kf v).testBit v=false:=by
     cases hb:(kf v).testBit v with
     | false=>rfl
     | true=>have:=o v hb;omega
    rw [this];simp
   .rw [decide_eq_false e,Bool.or_false];by_cases hb:(kf v).testBit k=true
    .have:=o k hb;rw [if_pos hb,if_neg om,if_neg om,List.append_nil,List.append_nil]
    .rw [if_neg hb,List.append_nil,List.append_nil];by_cases C:v<k
     .rw [if_pos C,if_pos om]
     .rw [if_neg C,if_neg om]
 rw [e,if_pos om]
theorem ElR.lastC(h:ElR n f m es perm vars rs kf pf R){v:Nat}(hv:v<f): lastC kf v=(bk (kf v) 32).length/\(bk (kf v ||| 2^v) 32).length=(bk (kf v) 32).length+1:=by
 unfold Go.Proofs.YtebcagekopgdhaaGreatDoor.lastC;rw [h.last hv];simp
theorem ElR.rlt(h:ElR n f m es perm vars rs kf pf R){v:Nat}(hv:v<f): Lt [] (R v):=(h.rows v (by have:=h.pm.fn;omega)).1
theorem ElR.rl(h:ElR n f m es perm vars rs kf pf R){v:Nat}(hv:v<f): ∀ y∈R v,y.length=Go.Proofs.YtebcagekopgdhaaGreatDoor.lastC kf v+1:=λy o=>by
 obtain ⟨z,_,rfl,_⟩:=((h.rows v (by have:=h.pm.fn;omega)).2.1 y).1 o;rw [Qh,(h.lastC hv).2,(h.lastC hv).1]
theorem ElR.big(h:ElR n f m es perm vars rs kf pf R)(c:Nat)(k:Row): TV n f kf pf R ds (plO perm f) c k<=4294967296^20 :=
 Qrj h.chf h.pm.fn h.n32 (λc G=>by
  rcases h.par G with ⟨C,_⟩|⟨p,C,h2,_⟩
  .exact .inl C
  .exact .inr ⟨p,C,(h.kbit G h2).1⟩) (λu v J o=>h.pm.inj J o) (λi hi=>h.pm.hits hi) (λv o=>h.pm.plN o) (λv o=>h.rlt o) (λv o=>h.rl o) (λv o=>(h.rows v o).2.2) c k
noncomputable def Jxh(n f m:Nat)(perm:List Nat)(vars:Nat->List Nat)(rs:Nat->List Row)(kf:Nat->Nat)(pf:Nat->Int)(R:Nat->List Row)(ds:List Bool): BX V :=
 ⟨V0,n,f,λv=>bk (kf v) 32,pf,plO perm f,(List.range m).map λi=>(vars i,rs i),TV n f kf pf R ds (plO perm f),
  λv k=>entK (Zt (ds.getD v false) (λx=>wtL (TV n f kf pf R ds (plO perm f)) x (chK kf pf v n)) (Go.Proofs.YtebcagekopgdhaaGreatDoor.lastC kf v) (R v)) k⟩
theorem ElR.W(h:ElR n f m es perm vars rs kf pf R){T:Nat->Row->Nat}{v:Nat}(z:Row): ∀ k,k<=n->wtL T (pmR (bk (kf v ||| 2^v) 32) z) (chK kf pf v k)=Jc k λc=>if pf c=(v:Int) then T c (pmR (bk (kf c) 32) z) else 1
 | 0,_=>rfl
 | k+1,hk=>by
  rw [Jvv,Jxn,h.W z k om,Jc];congr 1
  split
  .rename_i hp;rw [wtL,wtL,Nat.mul_one,Jck λu hu=>h.sub om hp hu]
  .rfl
theorem ElR.bag(h:ElR n f m es perm vars rs kf pf R){v:Nat}(hv:v<n)(z:Row): Ge m vars rs (kf v ||| 2^v) z↔(Jxh n f m perm vars rs kf pf R ds).bag v z:=by
 have key:∀ i j,i<m->j<(vars i).length->((kf v ||| 2^v).testBit ((vars i).getD j 0)=true↔((vars i).getD j 0=v∨(vars i).getD j 0∈bk (kf v) 32)):=λi j hi u=>by
  rw [h.kmem hv,Nat.testBit_or,Nat.testBit_two_pow,Bool.or_eq_true,decide_eq_true_eq];constructor
  .rintro (o|o)
   .exact .inr o
   .exact .inl o.symm
  .rintro (o|o)
   .exact .inr o.symm
   .exact .inl o
 constructor
 .intro J a U;obtain ⟨i,hi,rfl⟩:=List.mem_map.1 U;have hi:=List.mem_range.1 hi;obtain ⟨r,G,O⟩:=J i hi;exact ⟨r,G,λj u C=>O j u ((key i j hi u).2 C)⟩
 .intro J i hi;obtain ⟨r,G,O⟩:=J (vars i,rs i) (List.mem_map.2 ⟨i,List.mem_range.2 hi,rfl⟩);exact ⟨r,G,λj u C=>O j u ((key i j hi u).1 C)⟩
theorem ElR.ok(h:ElR n f m es perm vars rs kf pf R): (Jxh n f m perm vars rs kf pf R ds).Ok:=by
 have a5:=h.pm.fn;have hn:=h.n32;refine ⟨a5,λv G=>h.pm.plN G,λu v O G e=>h.pm.inj O G e,λv G u O=>h.kbit G ((h.kmem G).1 O),λv G=>?_,λv G p hp x hx=>?_,λa ha v a2 a1 u Z=>?_,λu v O aa=>?_,λu v O G o=>h.pm.plLow O G o,λa ha=>?_,λv hf G k=>?_,λv G k=>?_⟩
 .rcases h.par G with ⟨J,U⟩|⟨p,J,U,h3⟩
  .refine .inl ⟨?_,J⟩;refine List.eq_nil_iff_forall_not_mem.2 λu O=>?_;have:=(h.kmem G).1 O;rw [U u]at this;cases this
  .exact .inr ⟨p,J,(h.kmem G).2 U,λu O=>h3 u ((h.kmem G).1 O)⟩
 .have a3:pf v=(p:Int):=hp;have J:=h.sub G a3 ((h.kmem G).1 hx);rw [Nat.testBit_or,Nat.testBit_two_pow,Bool.or_eq_true,decide_eq_true_eq]at J;rcases J with J|J
  .exact .inr ((h.kmem (h.chf v p G a3).1).2 J)
  .exact .inl J.symm
 .obtain ⟨i,hi,rfl⟩:=List.mem_map.1 ha;have hi:=List.mem_range.1 hi;simp only at a2 a1 Z;by_cases e:u=v
  .exact .inl e
  .refine .inr ?_;have o:=h.lt i hi v a2;have a7:=h.lt i hi u Z;have a9:(kf v).testBit u=true:=by
    rw [(h.bags v o).2.1];refine Qfs ?_ e ((Jdh h.pm.ond (h.pm.omem.2 o) (h.pm.omem.2 a7)).2 (a1 u Z));simp only [nb0,Bool.and_eq_true,decide_eq_true_eq,bne_iff_ne,List.any_eq_true];exact ⟨⟨o,e⟩,es.getD i 0,getD_mem' 0 es (by rw [h.el];exact hi),(h.eb i hi v).2 a2,(h.eb i hi u).2 Z⟩
   exact (h.kmem o).2 a9
 .have a8:u<f:=O;show plO perm f u<plO perm f v;rw [h.pm.plFree a8,h.pm.plFree om];omega
 .obtain ⟨i,hi,rfl⟩:=List.mem_map.1 ha;have hi:=List.mem_range.1 hi;exact ⟨h.lt i hi,h.len i hi⟩
 .have a6:f<=v:=hf;have C:v<n:=G;refine ⟨Jgf h.chf v a6 k,?_⟩;show 0<TV n f kf pf R ds (plO perm f) v k↔_;rw [Jkk h.chf C a6,redT_pos];constructor
  .rintro ⟨x,hx,J,U⟩;obtain ⟨z,hz,rfl,hb⟩:=((h.rows v C).2.1 x).1 hx;refine ⟨z,hz,(h.bag C z).1 hb,?_,?_⟩
   .rw [<-U];exact (Jck (λu O=>by rw [Nat.testBit_or,O];rfl) z).symm
   .rw [h.W z n (Nat.le_refl _)]at J;exact J
  .rintro ⟨z,hz,hb,U,J⟩;refine ⟨pmR (bk (kf v ||| 2^v) 32) z,((h.rows v C).2.1 _).2 ⟨z,hz,rfl,(h.bag C z).2 hb⟩,?_,?_⟩
   .rw [h.W z n (Nat.le_refl _)];exact J
   .rw [<-U];exact Jck (λu O=>by rw [Nat.testBit_or,O];rfl) z
 .have C:v<f:=G;have o:v<n:=om
  have hg:=(Jzn (d:=ds.getD v false) (wt:=λx=>wtL (TV n f kf pf R ds (plO perm f)) x (chK kf pf v n)) (h.rlt C) (h.rl C)).entK k;refine ⟨?_,λp=>?_⟩
  .show TV n f kf pf R ds (plO perm f) v k=_;rw [Jyc h.chf a5 C,Jbb];rfl
  .show p∈entK _ k↔_;rw [hg,Jtk,entL_mem];have hl:=h.last C;have a4:=(h.lastC C).1;have e1:∀ z:Row,(pmR (bk (kf v ||| 2^v) 32) z).take (Go.Proofs.YtebcagekopgdhaaGreatDoor.lastC kf v)=pmR (bk (kf v) 32) z:=λz=>by
    rw [hl,a4];unfold pmR;rw [List.map_append,List.take_left' (by simp)]
   have e2:∀ z:Row,(pmR (bk (kf v ||| 2^v) 32) z).getD (Go.Proofs.YtebcagekopgdhaaGreatDoor.lastC kf v) V0=z.getD v V0:=λz=>by
    rw [hl,a4];unfold pmR;rw [List.map_append];simp only [List.getD];rw [List.getElem?_append_right (by simp)];simp
   constructor
   .rintro ⟨x,hx,J,U,h3,h4⟩;obtain ⟨z,hz,rfl,hb⟩:=((h.rows v o).2.1 x).1 hx;refine ⟨z,hz,(h.bag o z).1 hb,?_,?_,?_,h4⟩
    .rw [<-J,e1];rfl
    .rw [<-U,e2];rfl
    .rw [<-h3,h.W z n (Nat.le_refl _)];rfl
   .rintro ⟨z,hz,hb,J,U,h3,h4⟩;refine ⟨pmR (bk (kf v ||| 2^v) 32) z,((h.rows v o).2.1 _).2 ⟨z,hz,rfl,(h.bag o z).2 hb⟩,?_,?_,?_,h4⟩
    .rw [e1,<-J];rfl
    .rw [e2,<-U];rfl
    .rw [h.W z n (Nat.le_refl _),h3];rfl
theorem ElR.srt(h:ElR n f m es perm vars rs kf pf R): (Jxh n f m perm vars rs kf pf R ds).ix.Srt ds:=by
 refine ⟨rfl,λv u k=>?_⟩;have o:v<f:=u;show Iu _ (entK _ k);rw [(Jzn (h.rlt o) (h.rl o)).entK];exact Qlg (Qhs (h.rlt o) (h.rl o) k)
end
open Go.RowKit Pl Go.Wk
attribute [local irreducible] WC WL QX WD WDB WP WN WG
def Zs(n:Nat)(pf:Nat->Int)(T:Nat->Row->Nat)(ats:List Atm): Nat:=if ats.any (λa=>a.rows.isEmpty) then 0 else Jc n λv=>if pf v = -1 then T v [] else 1
theorem Qbl{n k:Nat}{g:Nat->Nat}(hk:k<n)(h:g k=0): Jc n g=0:=by
 rcases Nat.eq_zero_or_pos (Jc n g) with h'|h'
 .exact h'
 .have:=prodR_pos.1 h' k hk;omega
theorem Jzb{S:Nat}(hS:1<=S): ∀ {n:Nat} {g:Nat->Nat},(∀ c,c<n->g c<=S)->Jc n g<=S^n
 | 0,_,_=>Nat.le_refl _
 | n+1,g,h=>by
  rw [Jc,Nat.pow_succ];exact Nat.mul_le_mul (Jzb hS λc hc=>h c om) (h n om)
theorem Qwb{B0 n f b cb cv ct:Nat}{kf:Nat->Nat}{pf:Nat->Int}{R:Nat->List Row}{vR Dv Pv Av Kv:Value}{BA VA TA:Option Addr}{wF w:World}{va ta:List Value}{T:Nat->Row->Nat}{ats:List Atm}{AR:Nat->Prop}(hF:FixW B0 n f kf pf R vR BA wF)(hW:BldW wF b n (bCs n f Dv Pv Av BA cb vR VA cv TA ct Kv) VA cv TA ct w va ta)(hAv:GV 3 AtG wF Av ats)(hpf:∀ c,c<n->pf c = -1∨∃ p:Nat,pf c=p)(hdv:∀ c,c<n->f<=c->DnV AR (T c) w (va.getD c (.map none)))(hdt:∀ c,c<n->c<f->DnT AR (T c) w (ta.getD c (.map none)))(hroot:∀ c,c<n->pf c = -1->f<=c->∀ k,0<T c k->k=[])(hT1:∀ c,f<=c->∀ k,T c k<=1)(hTb:∀ c k,T c k<=4294967296^20):
  Ret Tryz.prog 85 [.pointer (some ⟨b,0,none⟩)] w λu w'=>NatV w' u (Zs n pf T ats)/\Fresh w u/\Ext w w':=by
 have af:Fresh w (.slice none 0 0):=λad m c e=>by cases e
 obtain ⟨a7,hB,b2,b5⟩:=hW;have bo:=hF.n32;obtain ⟨AA,ac,c0,rfl,bz,bw,bl,bm⟩:=hAv.parts;refine Jz Tryz.func85 Tryz.ntmps85 rfl kr rfl ?_;refine ρ ?_;refine ld (hB.at (i:=4) rfl) ?_;refine ρ ?_;refine Qd (fun (i:Nat)=>[(0,.pointer (some ⟨b,0,none⟩)),(2,.slice none 0 0),(12,.slice AA ats.length ac),(13,.int .i64 (ats.length:Int)),(14,.int .i64 (i:Int))])
  (λi w'=>i<=ats.length/\Ext w w'/\∀ j (hj:j<ats.length),j<i->ats[j].rows≠[]) (λi=>ats.length-i) 0 sB ⟨Nat.zero_le _,Ext.refl _,λj hj h=>om⟩ ?_
 rintro i w1 ⟨hi,a1,a4⟩;refine ρ ?_;refine ci (λh=>?_) (λh=>?_)
 .have li:i<ats.length:=by have:=oT h;omega
  clear h;have U:=a7.trans a1;obtain ⟨ce,bv,⟨⟨t1,t2,t3⟩,rfl,b9⟩,am⟩:=bm i li;obtain ⟨⟨PA,pc,bd,br,bq,bp⟩,bc,aa⟩:=id b9;simp only at bd bc;obtain ⟨a5,PG,a6,bn,ba,_⟩:=id aa;simp only at ba bn;subst bd;subst bc;subst ba;have ae:∀ j u,([.slice PA ats[i].vars.length pc,.int .i64 (ats[i].ar:Int),.slice PG a5.length a6]:List Value)[j]?=some u->w1.cell? ((adr AA (i*3)).add j)=some u:=λj u hu=>Uv U (am j u hu);refine ρ ?_;refine ixq 3 i (bl.ext U) li ?_;refine ρ ?_;refine lds (cs:=[.slice PA ats[i].vars.length pc,.int .i64 (ats[i].ar:Int),.slice PG a5.length a6]) ae ?_;refine ρ ?_;refine alc Vl ?_;intro w2 bb a9 an ao;refine ρ ?_;refine stb (cs':=[.slice PA ats[i].vars.length pc,.int .i64 (ats[i].ar:Int),.slice PG a5.length a6]) ao ?_ (Kk rfl);intro w3 b7 bu O;have Z:Ext w1 w3:=O w1 a9 an;refine ρ ?_;refine lds (cs:=[.int .i64 (ats[i].ar:Int),.slice PG a5.length a6]) (λj u hu=>b7.sub (i:=1) (j:=j) (by rw [Nat.add_comm];exact hu)) ?_
  refine ρ ?_;refine cl (Jxx (b9.ext (U.trans Z)).rel) ?_;rintro u w4 ⟨rfl,a8⟩;refine ρ ?_;refine ci (λh=>?_) (λh=>?_)
  .have h0:ats[i].rows.length=0:=by have:=Xf h;omega
   refine ρ ?_;refine Jj ⟨?_,af,(a1.trans Z).trans a8⟩;have e:Zs n pf T ats=0:=by
    unfold Zs;rw [if_pos];exact List.any_eq_true.2 ⟨ats[i],List.getElem_mem li,by rw [List.isEmpty_iff];exact List.eq_nil_of_length_eq_zero h0⟩
   rw [e];exact NatV.nil _
  .have h0:ats[i].rows.length≠0:=λe=>by have:=Xg h;omega
   refine ρ ?_;refine Qw (i+1) sO ⟨li,(a1.trans Z).trans a8,λj hj bs=>?_⟩ om;by_cases e:j=i
   .subst e;intro e2;rw [e2]at h0;exact h0 rfl
   .exact a4 j hj om
 have bi:i=ats.length:=by have:=oF h;omega
 clear h;have ah:ats.any (λa=>a.rows.isEmpty)=false:=by
  rw [List.any_eq_false];intro a ha he;obtain ⟨j,hj,rfl⟩:=List.getElem_of_mem ha;exact a4 j hj om (List.isEmpty_iff.1 he)
 have ai:Zs n pf T ats=Jc n λv=>if pf v = -1 then T v [] else 1:=by unfold Zs;rw [ah];rfl
 rw [ai];clear ai ah a4 bi;obtain ⟨g,hg⟩:∃ g:Nat->Nat,g=λv=>if pf v = -1 then T v [] else 1:=⟨_,rfl⟩
 rw [<-hg];have ax:∀ v,g v<=4294967296^20:=λv=>by
  rw [hg];simp only;split
  .exact hTb _ _
  .exact Nat.pow_pos (by decide)
 have bg:∀ k,k<=n->Nb (Jc k g):=λk hk=>Nb.pow (k:=k) (Jzb (Nat.pow_pos (by decide)) λc _=>ax c) om;have bj:∀ v,Nb (g v):=λv=>Nb.pow (k:=1) (by rw [Nat.pow_one];exact ax v) om;refine ρ ?_;refine cl (Jcq 1 (by decide) _) ?_;rintro vp w2 ⟨aw,b1,a9⟩;have a2:=a1.trans a9;refine ρ ?_;refine ld ((hB.ext a2).at (i:=5) rfl) ?_;refine ρ ?_;refine Jt (fun (k:Nat) (vp:Value)=>[(0,.pointer (some ⟨b,0,none⟩)),(2,.slice none 0 0),(5,vp),(27,.slice BA n cb),(28,.int .i64 (n:Int)),(29,.int .i64 (k:Int))])
  (λk vp w'=>k<=n/\Ext w w'/\NatV w' vp (Jc k g)/\Fresh w vp) (λk _=>n-k) 0 vp sB ⟨Nat.zero_le _,a2,aw,λad m c e=>nL a1.size (b1 ad m c e)⟩ ?_
 clear b1 aw a2 a9 vp w2;rintro k vp w3 ⟨hk,O,a3,ak⟩;refine ρ ?_;refine ci (λh=>?_) (λh=>?_)
 .have lk:k<n:=by have:=oT h;omega
  clear h;have ab:∀ j u,(Qb kf pf k)[j]?=some u->w3.cell? ((adr BA (k*3)).add j)=some u:=λj u hu=>by
   have hj:j<3:=by
    rcases Nat.lt_or_ge j 3 with h'|h'
    .exact h'
    .rw [List.getElem?_eq_none (by simp [Qb];omega)]at hu;cases hu
   rw [Xb];exact (hF.bags.ext (a7.trans O)).cell ((Ip (sz:=3) (λ_ _=>rfl) lk hj).trans hu)
  refine ρ ?_;refine ixq 3 k (hF.bags.ext (a7.trans O)) lk ?_;refine ρ ?_;refine lds (cs:=Qb kf pf k) ab ?_;refine ρ ?_;refine alc zBag ?_;intro w4 bb a8 an ao;refine ρ ?_;refine stb (cs':=Qb kf pf k) ao ?_ Jzd;intro w5 b6 bt be;have G:Ext w3 w5:=be w3 a8 an;have C:=O.trans G;refine ρ ?_;refine ld (b6.at (i:=2) rfl) ?_;refine ρ ?_;refine ci (λh=>?_) (λh=>?_)
  .have a4:pf k≠-1:=by have:=oT h;omega
   refine ρ ?_;refine Jg (k+1) vp sO ⟨lk,C,?_,ak⟩ om;have e:Jc (k+1) g=Jc k g:=by rw [Jc,hg];simp only;rw [if_neg a4,Nat.mul_one]
   rw [e];exact a3.ext G
  .have hp:pf k = -1:=by
    have:=oF h;rcases hpf k lk with h'|⟨p,h'⟩
    .exact h'
    .omega
   have ap:g k=T k []:=by rw [hg];simp only;rw [if_pos hp]
   have b8:=hB.ext C;refine ρ ?_;refine ld (b8.at (i:=1) rfl) ?_;refine ρ ?_;refine ci (λh=>?_) (λh=>?_)
   .have lf:k<f:=by have:=oT h;omega
    obtain ⟨mb,m,fm,e1,e2,⟨e3,e4⟩,e5⟩:=hdt k lk lf;have aj:ta[k]?=some (.map (some mb)):=by
     rw [<-e1];have hl:=b5.1;simp [List.getD,List.getElem?_eq_getElem (show k<ta.length by omega)]
    have aq:Ext w5 w5.drew:=(Ext.refl w5).drew;have o:=C.trans aq;have b4:=(Rd.own b5).ext o;have ag:FitR []:=⟨by simp,λv hv=>by cases hv⟩;refine ρ ?_;refine dr [(0,0),(0,1),(0,2),(0,3),(0,4),(0,5),(0,6),(0,7),(1,8),(0,9),(1,10),(0,11)] kr ?_;refine ρd ?_;refine dld ((hB.ext o).at (i:=8) rfl) ?_;refine ρd ?_;refine dix k b4 lk ?_;refine ρd ?_;refine dld (b4.cell aj) ?_;refine ρd ?_;refine dcl (Jqs (r:=[]) (A:=none) (c:=0) (hF.tb.ext (a7.trans o)) Rd.nil (λu hu=>by cases hu) (by have:=ag.len;omega) (by simp)) ?_;rintro un w6 ⟨rfl,J⟩;refine ⟨J,?_⟩;refine ρd ?_;refine dmlk KS (e3.ext (o.trans J)) zNat (Ua ag) ?_;have av:NatV w6 ((fm (.string (idn []))).getD (.slice none 0 0)) (g k):=by
     rw [ap];rcases e5 []with ⟨h6,h7⟩|⟨y,h6,h7,h8⟩
     .rw [h6,h7];exact NatV.nil _
     .rw [h6];exact h8.1.ext (o.trans J)
    refine ρd ?_;refine dcl (Jwx (a3.ext ((G.trans aq).trans J)) av (bg k hk).len (bj k).len) ?_;rintro vr w7 ⟨bf,ay,au⟩;refine ⟨au,?_⟩;refine ρd ?_;refine ρ ?_;exact Jg (k+1) vr sO ⟨lk,(o.trans J).trans au,bf,λad m c e=>nL (o.trans J).size (ay ad m c e)⟩ om
   .have lf:f<=k:=by have:=oF h;omega
    obtain ⟨mb,m,fm,e1,e2,⟨e3,e4⟩,e5,e6⟩:=hdv k lk lf;have aj:va[k]?=some (.map (some mb)):=by
     rw [<-e1];have hl:=b2.1;simp [List.getD,List.getElem?_eq_getElem (show k<va.length by omega)]
    have b3:=(Rd.own b2).ext C;refine ρ ?_;refine ld (b8.at (i:=7) rfl) ?_;refine ρ ?_;refine ix k b3 lk ?_;refine ρ ?_;refine ld (b3.cell aj) ?_;refine ρ ?_;refine mln KS (e3.ext C) ?_;intro q hq;refine ρ ?_;refine ci (λh=>?_) (λh=>?_)
    .have h0:q=0:=by have:=Xf h;omega
     have h1:=hq.1 h0 (.string (idn []));rw [e5]at h1;have h2:T k []=0:=by
      rcases Nat.eq_zero_or_pos (T k []) with h'|h'
      .exact h'
      .rw [if_pos h']at h1;cases h1
     refine ρ ?_;refine Jj ⟨?_,af,C⟩;rw [Qbl lk (by rw [ap,h2])];exact NatV.nil _
    .have h0:¬ q=0:=λe=>by have:=Xg h;omega
     have h1:0<T k []:=by
      refine Classical.byContradiction λh'=>h0 (hq.2 λkl=>?_);cases hfk:fm kl with
      | none=>rfl
      | some x=>
       obtain ⟨r,rfl⟩:=e6 kl (by rw [hfk];simp);rw [e5]at hfk;split at hfk
       .rename_i hr;rw [hroot k lk hp lf r hr]at hr;exact absurd hr h'
       .cases hfk
     refine ρ ?_;refine Jg (k+1) vp sO ⟨lk,C,?_,ak⟩ om;have h2:=hT1 k lf [];have e:Jc (k+1) g=Jc k g:=by rw [Jc,ap,show T k []=1 by omega,Nat.mul_one]
     rw [e];exact a3.ext G
 have bh:k=n:=by have:=oF h;omega
 rw [bh]at a3;refine ρ ?_;exact Jj ⟨a3,ak,O⟩
end Go.Proofs.YtebcagekopgdhaaGreatDoor
