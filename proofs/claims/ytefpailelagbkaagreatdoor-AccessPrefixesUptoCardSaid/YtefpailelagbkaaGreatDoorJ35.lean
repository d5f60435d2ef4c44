/- Part 35 of the proof: Pw, IxP, Ix7. -/
import Derived.Test.YtefpailelagbkaaGreatDoorJ34
set_option linter.unusedVariables false
set_option maxRecDepth 100000
set_option maxHeartbeats 40000000
namespace Go.Proofs.YtefpailelagbkaaGreatDoor
open Pl Go.Wk
def Jcs: Nat->(Nat->Nat)->Nat
 | 0,_=>0
 | n+1,g=>Jcs n g+g n
theorem Jfq{n:Nat}{g h:Nat->Nat}(e:∀ c,c<n->g c=h c): Jcs n g=Jcs n h:=by
 induction n with
 | zero=>rfl
 | succ n ih=>rw [Jcs,Jcs,ih (λc hc=>e c (by omega)),e n (by omega)]
theorem Qvn(n:Nat)(g h:Nat->Nat): Jcs n (λc=>g c+h c)=Jcs n g+Jcs n h:=by
 induction n with
 | zero=>rfl
 | succ n ih=>rw [Jcs,Jcs,Jcs,ih];omega
theorem Qjt{n:Nat}{g:Nat->Nat}(e:∀ c,c<n->g c=0): Jcs n g=0:=by
 induction n with
 | zero=>rfl
 | succ n ih=>rw [Jcs,ih (λc hc=>e c (by omega)),e n (by omega)]
theorem Xxd{n k:Nat}(g:Nat->Nat)(hk:k<n): g k<=Jcs n g:=by
 induction n with
 | zero=>omega
 | succ n ih=>
  rw [Jcs];by_cases e:k=n
  ·subst e;omega
  ·have:=ih (by omega);omega
theorem Qpx{n v:Nat}(x:Nat)(hv:v<n): Jcs n (λc=>if c=v then x else 0)=x:=by
 induction n with
 | zero=>omega
 | succ n ih=>
  rw [Jcs];by_cases e:v=n
  ·subst e;rw [if_pos rfl,Qjt λc hc=>if_neg (by omega)];omega
  ·rw [if_neg (λh=>e h.symm),ih (by omega)];omega
theorem pw2(a b s t:Nat)(h:a*s<=b*t): (2^a)^s<=(2^b)^t:=by
 rw [<-Nat.pow_mul,<-Nat.pow_mul];exact Nat.pow_le_pow_right (by decide) h
theorem Qjn{T T':Nat->Row->Nat}{x:Row}: ∀ {l:List (Nat×List Nat)},(∀ p∈l,T p.1=T' p.1)->wtL T x l=wtL T' x l
 | [],_=>rfl
 | p::l,h=>by rw [wtL,wtL,h p List.mem_cons_self,Qjn λq hq=>h q (List.mem_cons_of_mem _ hq)]
section
variable (n f:Nat) (kf:Nat->Nat) (pf:Nat->Int) (R:Nat->List Row) (ds:List Bool)
def lastC(v:Nat): Nat:=(bk (kf v ||| 2^v) 32).length-1
noncomputable def Jsf(T:Nat->Row->Nat)(v:Nat): Row->Nat :=
 if v<n then (if v<f then Qgt (Qxm (ds.getD v false) (λx=>wtL T x (chK kf pf v n)) (lastC kf v) (R v)) else Qfq (R v) (Jrf kf v) λx=>wtL T x (chK kf pf v n)) else λ_=>0
noncomputable def TF: Nat->Nat->Row->Nat
 | 0=>λ_ _=>0
 | s+1=>λv=>Jsf n f kf pf R ds (TF s) v
noncomputable def TV(pl:Nat->Nat)(v:Nat): Row->Nat:=TF n f kf pf R ds (pl v+1) v
variable {n f:Nat} {kf:Nat->Nat} {pf:Nat->Int} {R:Nat->List Row} {ds:List Bool}
theorem Jlm{T T':Nat->Row->Nat}{v:Nat}(h:∀ c,c<n->pf c=(v:Int)->T c=T' c): Jsf n f kf pf R ds T v=Jsf n f kf pf R ds T' v:=by
 have e:(λx=>wtL T x (chK kf pf v n))=λx=>wtL T' x (chK kf pf v n):=by
  funext x
  exact Qjn λp hp=>by obtain ⟨h1,h2,_⟩:=Jcx hp;exact h _ h1 h2
 unfold Jsf;rw [e]
def ChF(n:Nat)(pf:Nat->Int)(pl:Nat->Nat): Prop:=∀ c v:Nat,c<n->pf c=(v:Int)->v<n/\pl c<pl v
theorem Qpd{pl:Nat->Nat}(hch:ChF n pf pl): ∀ (s s' v:Nat),v<n->pl v<s->pl v<s'->TF n f kf pf R ds s v=TF n f kf pf R ds s' v
 | 0,_,_,_,h,_=>by omega
 | s+1,0,_,_,_,h=>by omega
 | s+1,s'+1,v,hv,h1,h2=>Jlm λc hc hp=>by
  have:=(hch c v hc hp).2;exact Qpd hch s s' c hc (by omega) (by omega)
theorem Xdl{pl:Nat->Nat}(hch:ChF n pf pl){v:Nat}(hv:v<n): TV n f kf pf R ds pl v=Jsf n f kf pf R ds (TV n f kf pf R ds pl) v :=
 Jlm λc hc hp=>by
  have:=(hch c v hc hp).2;exact Qpd hch (pl v) (pl c+1) c hc (by omega) (by omega)
theorem Xqh{pl:Nat->Nat}{v:Nat}(hv:¬ v<n)(k:Row): TV n f kf pf R ds pl v k=0:=by
 show Jsf n f kf pf R ds _ v k=0;unfold Jsf;rw [if_neg hv]
theorem Qjc{pl:Nat->Nat}(hch:ChF n pf pl)(hfn:f<=n){v:Nat}(hv:v<f): TV n f kf pf R ds pl v=Qgt (Qxm (ds.getD v false) (λx=>wtL (TV n f kf pf R ds pl) x (chK kf pf v n)) (lastC kf v) (R v)):=by
 rw [Xdl hch (by omega)];unfold Jsf;rw [if_pos (by omega),if_pos hv]
theorem Qzj{pl:Nat->Nat}(hch:ChF n pf pl){v:Nat}(hv:v<n)(hf:f<=v): TV n f kf pf R ds pl v=Qfq (R v) (Jrf kf v) λx=>wtL (TV n f kf pf R ds pl) x (chK kf pf v n):=by
 rw [Xdl hch hv];unfold Jsf;rw [if_pos hv,if_neg (by omega)]
section
variable (n) (pf)
def stF: Nat->Nat->Nat
 | 0=>λ_=>0
 | s+1=>λv=>1+Jcs n λc=>if pf c=(v:Int) then stF s c else 0
def stV(pl:Nat->Nat)(v:Nat): Nat:=stF n pf (pl v+1) v
end
theorem Qvp{pl:Nat->Nat}(hch:ChF n pf pl): ∀ (s s' v:Nat),v<n->pl v<s->pl v<s'->stF n pf s v=stF n pf s' v
 | 0,_,_,_,h,_=>by omega
 | s+1,0,_,_,_,h=>by omega
 | s+1,s'+1,v,hv,h1,h2=>by
  show 1+_=1+_;congr 1
  refine Jfq λc hc=>?_;split
  ·rename_i hp;have:=(hch c v hc hp).2;exact Qvp hch s s' c hc (by omega) (by omega)
  ·rfl
theorem Xjb{pl:Nat->Nat}(hch:ChF n pf pl){v:Nat}(hv:v<n): stV n pf pl v=1+Jcs n λc=>if pf c=(v:Int) then stV n pf pl c else 0:=by
 show 1+_=1+_;congr 1
 refine Jfq λc hc=>?_;split
 ·rename_i hp;have:=(hch c v hc hp).2;exact Qvp hch (pl v) (pl c+1) c hc (by omega) (by omega)
 ·rfl
theorem Qtz{pl:Nat->Nat}(hch:ChF n pf pl)(hpf:∀ c,c<n->pf c = -1∨∃ p:Nat,pf c=p/\p<n)(hin:∀ u v,u<n->v<n->pl u=pl v->u=v)(hat:∀ i,i<n->∃ v,v<n/\pl v=i):
  ∀ i,i<=n->Jcs n (λc=>if pl c<i/\(pf c = -1∨i<=pl (pf c).toNat) then stV n pf pl c else 0)=i
 | 0,_=>Qjt λc _=>if_neg (by omega)
 | i+1,hi=>by
  have ih:=Qtz hch hpf hin hat i (by omega);obtain ⟨v,hv,hpv⟩:=hat i (by omega);have e1:Jcs n (λc=>(if pl c<i+1/\(pf c = -1∨i+1<=pl (pf c).toNat) then stV n pf pl c else 0)+if pf c=(v:Int) then stV n pf pl c else 0)=Jcs n (λc=>(if pl c<i/\(pf c = -1∨i<=pl (pf c).toNat) then stV n pf pl c else 0)+if c=v then stV n pf pl v else 0):=by
   refine Jfq λc hc=>?_;by_cases ec:c=v
   ·subst ec;have hne:pf c≠(c:Int):=λe=>by have:=(hch c c hc e).2;omega
    rw [if_neg hne,if_pos rfl,if_neg (show ¬ (pl c<i/\_) by omega)];rw [if_pos]
    ·omega
    refine ⟨by omega,?_⟩;rcases hpf c hc with h|⟨p,h,_⟩
    ·exact .inl h
    ·have:=(hch c p hc h).2;rw [h];right;simp only [Int.toNat_natCast];omega
   ·rw [if_neg ec];have hnp:pl c≠i:=λe=>ec (hin c v hc hv (by omega));by_cases ep:pf c=(v:Int)
    ·have h1:=(hch c v hc ep).2;have h2:pl (pf c).toNat=i:=by rw [ep];simp only [Int.toNat_natCast];exact hpv
     rw [if_pos ep,if_neg (show ¬ (pl c<i+1/\(pf c = -1∨i+1<=pl (pf c).toNat)) by omega),if_pos (show pl c<i/\(pf c = -1∨i<=pl (pf c).toNat) from ⟨by omega,.inr (by omega)⟩)];omega
    ·rw [if_neg ep];have h3:(pl c<i+1/\(pf c = -1∨i+1<=pl (pf c).toNat))↔(pl c<i/\(pf c = -1∨i<=pl (pf c).toNat)):=by
      rcases hpf c hc with h|⟨p,h,hp⟩
      ·simp only [h,true_or,and_true];omega
      ·have h4:pl p≠i:=λe=>ep (by rw [h,hin p v hp hv (by omega)]);rw [h];simp only [Int.toNat_natCast];omega
     simp only [h3]
  rw [Qvn,Qvn,Qpx _ hv,ih,Xjb hch hv]at e1;omega
theorem Xvz{pl:Nat->Nat}(hch:ChF n pf pl)(hpf:∀ c,c<n->pf c = -1∨∃ p:Nat,pf c=p/\p<n)(hin:∀ u v,u<n->v<n->pl u=pl v->u=v)(hat:∀ i,i<n->∃ v,v<n/\pl v=i)(hpl:∀ v,v<n->pl v<n){v:Nat}(hv:v<n): stV n pf pl v<=n:=by
 have h1:=Qtz hch hpf hin hat (pl v+1) (hpl v hv);have h2:=Xxd (n:=n) (λc=>if pl c<pl v+1/\(pf c = -1∨pl v+1<=pl (pf c).toNat) then stV n pf pl c else 0) hv;rw [h1]at h2;have h3:pl v<pl v+1/\(pf v = -1∨pl v+1<=pl (pf v).toNat):=by
  refine ⟨by omega,?_⟩;rcases hpf v hv with h|⟨p,h,_⟩
  ·exact .inl h
  ·have:=(hch v p hv h).2;rw [h];right;simp only [Int.toNat_natCast];omega
 simp only [h3,and_self,if_true]at h2;have:=hpl v hv;omega
theorem Qfx{T:Nat->Row->Nat}{x:Row}{st:Nat->Nat}{kf:Nat->Nat}{pf:Nat->Int}{v n:Nat}(hT:∀ c,c<n->pf c=(v:Int)->∀ k,T c k<=65536^st c): ∀ k,k<=n->wtL T x (chK kf pf v k)<=65536^Jcs k (λc=>if pf c=(v:Int) then st c else 0)
 | 0,_=>Nat.le_refl _
 | k+1,hk=>by
  have ih:=Qfx (T:=T) (x:=x) (kf:=kf) hT k (by omega);rw [Jht,Jhz,Jcs,Nat.pow_add];refine Nat.mul_le_mul ih ?_;split
  ·rename_i hp;rw [wtL,wtL,Nat.mul_one];exact hT k (by omega) hp _
  ·exact Nat.le_refl _
theorem Jlj{wt:Row->Nat}{m S:Nat}(h:∀ x,wt x<=S)(k:Row): ∀ rs:List Row,tot (Jbs wt m rs k)<=rs.length*S
 | []=>by simp [Jbs,tot]
 | x::rs=>by
  have ih:=Jlj (m:=m) h k rs;have e:tot (Jbs wt m (x::rs) k)<=wt x+tot (Jbs wt m rs k):=by
   unfold Jbs;rw [List.filter_cons];split
   ·rw [List.map_cons,tot];exact Nat.le_refl _
   ·omega
  have:=h x;rw [List.length_cons,Nat.succ_mul];omega
theorem Xdk{pl:Nat->Nat}(hch:ChF n pf pl)(hfn:f<=n)(hlt:∀ v,v<f->Lt [] (R v))(hl:∀ v,v<f->∀ y∈R v,y.length=lastC kf v+1)(hR:∀ v,v<n->(R v).length<=65536):
  ∀ (s v:Nat),v<n->pl v<s->∀ k,TV n f kf pf R ds pl v k<=65536^stV n pf pl v
 | 0,_,_,h,_=>by omega
 | s+1,v,hv,hs,k=>by
  have hW:∀ x,wtL (TV n f kf pf R ds pl) x (chK kf pf v n)<=65536^Jcs n (λc=>if pf c=(v:Int) then stV n pf pl c else 0):=λx=>
   Qfx (λc hc hp k=>Xdk hch hfn hlt hl hR s c hc (by have:=(hch c v hc hp).2;omega) k) n (Nat.le_refl _)
  rw [Xjb hch hv,Nat.pow_add,Nat.pow_one];by_cases hf:v<f
  ·rw [Qjc hch hfn hf,Qzw,(Jdz (hlt v hf) (hl v hf)).entK,Jhs];exact Nat.le_trans (Jlj hW k _) (Nat.mul_le_mul_right _ (hR v hv))
  ·rw [Qzj hch hv (by omega)];refine Nat.le_trans Qhr ?_;exact Nat.mul_pos (by decide) (Nat.pow_pos (by decide))
theorem Qpc{pl:Nat->Nat}(hch:ChF n pf pl)(c:Nat)(hc:f<=c)(k:Row): TV n f kf pf R ds pl c k<=1:=by
 by_cases h:c<n
 ·rw [Qzj hch h hc];exact Qhr
 ·rw [Xqh h];omega
theorem Xdm{pl:Nat->Nat}(hch:ChF n pf pl)(hfn:f<=n)(hn:n<=32)(hpf:∀ c,c<n->pf c = -1∨∃ p:Nat,pf c=p/\p<n)(hin:∀ u v,u<n->v<n->pl u=pl v->u=v)(hat:∀ i,i<n->∃ v,v<n/\pl v=i)(hpl:∀ v,v<n->pl v<n)(hlt:∀ v,v<f->Lt [] (R v))(hl:∀ v,v<f->∀ y∈R v,y.length=lastC kf v+1)(hR:∀ v,v<n->(R v).length<=65536)(c:Nat)(k:Row): TV n f kf pf R ds pl c k<=4294967296^20:=by
 by_cases h:c<n
 ·refine Nat.le_trans (Xdk hch hfn hlt hl hR (pl c+1) c h (by omega) k) ?_;have h1:=Xvz hch hpf hin hat hpl h;have h2:=pw2 16 32 (stV n pf pl c) 20 (by omega);rw [show (65536:Nat)=2^16 by decide,show (4294967296:Nat)=2^32 by decide];exact h2
 ·rw [Xqh h];omega
end
open Pl Go.Wk
structure ElR(n f m:Nat)(es perm:List Nat)(vars:Nat->List Nat)(rs:Nat->List Row)(kf:Nat->Nat)(pf:Nat->Int)(R:Nat->List Row): Prop where
 pm:PermOk n f perm
 n32:n<=32
 lt:∀ i,i<m->∀ v∈vars i,v<n
 len:∀ i,i<m->∀ r∈rs i,r.length=(vars i).length
 el:es.length=m
 eb:∀ i,i<m->∀ u,(es.getD i 0).testBit u=true↔u∈vars i
 ep:∀ e∈es,e<2^n
 bags:Qpk n es (Jzt perm f) kf pf
 rows:∀ v,v<n->Qjf n m vars rs (kf v ||| 2^v) (R v)
section
variable {n f m:Nat} {es perm:List Nat} {vars:Nat->List Nat} {rs:Nat->List Row} {kf:Nat->Nat} {pf:Nat->Int} {R:Nat->List Row} {ds:List Bool}
abbrev plO(perm:List Nat)(f:Nat): Nat->Nat:=plc (Jzt perm f)
theorem PermOk.plN(h:PermOk n f perm){v:Nat}(hv:v<n): plO perm f v<n:=by
 have:=(Jbc h.ond (h.omem.2 hv)).1;rw [h.olen]at this;exact this
theorem PermOk.inj(h:PermOk n f perm){u v:Nat}(hu:u<n)(hv:v<n)(e:plO perm f u=plO perm f v): u=v:=by
 rw [<-(Jbc h.ond (h.omem.2 hu)).2,<-(Jbc h.ond (h.omem.2 hv)).2];show (Jzt perm f).getD (plO perm f u) 0=(Jzt perm f).getD (plO perm f v) 0;rw [e]
theorem PermOk.hits(h:PermOk n f perm){i:Nat}(hi:i<n): ∃ v,v<n/\plO perm f v=i:=by
 have hi':i<(Jzt perm f).length:=by rw [h.olen];exact hi
 exact ⟨(Jzt perm f).getD i 0,h.olt (getD_mem' 0 _ hi'),Jmd h.ond hi'⟩
theorem PermOk.plPerm(h:PermOk n f perm){i:Nat}(hi:i<perm.length): plO perm f (perm.getD i 0)=i:=by
 have hi':i<(Jzt perm f).length:=by simp [Jzt];omega
 have e:(Jzt perm f).getD i 0=perm.getD i 0:=by simp [Jzt,List.getD,List.getElem?_append_left hi]
 rw [<-e];exact Jmd h.ond hi'
theorem PermOk.plFree(h:PermOk n f perm){u:Nat}(hu:u<f): plO perm f u=perm.length+(f-1-u):=by
 have hi':perm.length+(f-1-u)<(Jzt perm f).length:=by simp [Jzt];omega
 have e:(Jzt perm f).getD (perm.length+(f-1-u)) 0=u:=by
  simp only [Jzt,List.getD];rw [List.getElem?_append_right (by omega),Nat.add_sub_cancel_left,List.getElem?_reverse (by simp;omega),List.length_range,List.getElem?_range (by omega)];simp only [Option.getD_some];omega
 have:=Jmd h.ond hi';rw [e]at this;exact this
theorem PermOk.plLow(h:PermOk n f perm){u v:Nat}(hu:u<f)(hv:f<=v)(hn:v<n): plO perm f v<plO perm f u:=by
 have hm:v∈perm:=by
  have:=h.omem.2 hn;rcases List.mem_append.1 this with h1|h1
  ·exact h1
  ·have:=List.mem_range.1 (List.mem_reverse.1 h1);omega
 obtain ⟨i,hi,e⟩:=List.getElem_of_mem hm;have h1:=h.plPerm hi;rw [Jjh 0 _ hi,e]at h1;rw [h1,h.plFree hu];omega
theorem ElR.inv(h:ElR n f m es perm vars rs kf pf R): NbInv [] (nb0 n es):=Qlk h.ep
theorem ElR.kbit(h:ElR n f m es perm vars rs kf pf R){v u:Nat}(hv:v<n)(hu:(kf v).testBit u=true): u<n/\plO perm f v<plO perm f u:=by
 obtain ⟨_,h2,_⟩:=h.bags v hv;rw [h2]at hu;have hun:u<n:=Qyv (nb:=nb0 n es) (ord:=Jzt perm f) (N:=n) (λa b hab=>(Jpz h.ep hab).2.1) hu;obtain ⟨h3,h4⟩:=Jtc h.inv h.pm.ond (h.pm.omem.2 hv) hu;have h5:=(Jtb h.pm.ond (h.pm.omem.2 hv) (h.pm.omem.2 hun)).1 h3;refine ⟨hun,?_⟩;rcases Nat.lt_or_ge (plO perm f v) (plO perm f u) with h6|h6
 ·exact h6
 ·exact absurd (h.pm.inj hun hv (Nat.le_antisymm h6 h5)) h4
theorem ElR.kmem(h:ElR n f m es perm vars rs kf pf R){v u:Nat}(hv:v<n): u∈bk (kf v) 32↔(kf v).testBit u=true:=by
 rw [bk_mem];have:=h.n32;exact ⟨λh'=>h'.2,λh'=>⟨by have:=(h.kbit hv h').1;omega,h'⟩⟩
theorem ElR.par(h:ElR n f m es perm vars rs kf pf R){v:Nat}(hv:v<n): (pf v = -1/\∀ u,(kf v).testBit u=false)∨∃ p:Nat,pf v=p/\(kf v).testBit p=true/\∀ u,(kf v).testBit u=true->plO perm f p<=plO perm f u:=by
 obtain ⟨_,h2,h3⟩:=h.bags v hv;rcases h3 with ⟨h3,h4⟩|⟨p,h3,h4,h5⟩
 ·exact .inl ⟨h3,λu=>by rw [h2];exact h4 u⟩
 ·exact .inr ⟨p,h3,by rw [h2];exact h4,λu hu=>h5 u (by rw [<-h2];exact hu)⟩
theorem ElR.chf(h:ElR n f m es perm vars rs kf pf R): ChF n pf (plO perm f):=λc v hc hp=>by
 rcases h.par hc with ⟨h1,_⟩|⟨p,h1,h2,_⟩
 ·rw [h1]at hp;omega
 ·have e:p=v:=by rw [h1]at hp;omega
  subst e;exact h.kbit hc h2
theorem ElR.sub(h:ElR n f m es perm vars rs kf pf R){c v u:Nat}(hc:c<n)(hp:pf c=(v:Int))(hu:(kf c).testBit u=true): (kf v ||| 2^v).testBit u=true:=by
 have hv:=(h.chf c v hc hp).1;rw [Nat.testBit_or,Nat.testBit_two_pow,Bool.or_eq_true,decide_eq_true_eq];by_cases e:u=v
 ·exact .inr e.symm
 ·refine .inl ?_;obtain ⟨_,hb,_⟩:=h.bags c hc;obtain ⟨_,hb2,_⟩:=h.bags v hv;rcases h.par hc with ⟨h1,_⟩|⟨p,h1,h2,h3⟩
  ·rw [h1]at hp;omega
  ·have ev:p=v:=by rw [h1]at hp;omega
   subst ev;rw [hb2];refine Qdj h.inv h.pm.ond (h.pm.omem.2 hc) (h.pm.omem.2 hv) (by rw [<-hb];exact h2) (λx hx=>?_) (by rw [<-hb];exact hu) e;have hx':(kf c).testBit x=true:=by rw [hb];exact hx
   exact (Jtb h.pm.ond (h.pm.omem.2 hv) (h.pm.omem.2 (h.kbit hc hx').1)).2 (h3 x hx')
theorem Xbm{s t:Nat}(h:∀ u,t.testBit u=true->s.testBit u=true): inS (bk s 32) t=bk t 32:=by
 unfold inS bk;rw [List.filter_filter];refine List.filter_congr λu _=>?_;cases e:t.testBit u with
 | false=>simp
 | true=>simp [h u e]
theorem Qlb{s t:Nat}(h:∀ u,t.testBit u=true->s.testBit u=true)(z:Row): pmR (Jqt (bk s 32) t) (pmR (bk s 32) z)=pmR (bk t 32) z:=by
 have:=Qlc (bk s 32) t z (bk s 32).length (Nat.le_refl _);rw [List.take_length,Xbm h]at this;exact this
theorem ElR.last(h:ElR n f m es perm vars rs kf pf R){v:Nat}(hv:v<f): bk (kf v ||| 2^v) 32=bk (kf v) 32++[v]:=by
 have hn:=h.n32;have hfn:=h.pm.fn;have hlow:∀ u,(kf v).testBit u=true->u<v:=λu hu=>by
  obtain ⟨h1,h2⟩:=h.kbit (by omega) hu;rcases Nat.lt_or_ge u f with h3|h3
  ·rw [h.pm.plFree hv,h.pm.plFree h3]at h2;omega
  ·have:=h.pm.plLow hv h3 h1;omega
 have e:∀ k,bk (kf v ||| 2^v) k=bk (kf v) k++if v<k then [v] else []:=by
  intro k;induction k with
  | zero=>rfl
  | succ k ih=>
   rw [Jwt,Jwt,ih,Nat.testBit_or,Nat.testBit_two_pow];by_cases e:v=k
   ·subst e;rw [if_neg (Nat.lt_irrefl v),if_pos (Nat.lt_succ_self v)];have:(kf v).testBit v=false:=by
     cases hb:(kf v).testBit v with
     | false=>rfl
     | true=>have:=hlow v hb;omega
    rw [this];simp
   ·rw [decide_eq_false e,Bool.or_false];by_cases hb:(kf v).testBit k=true
    ·have:=hlow k hb;rw [if_pos hb,if_neg (by omega),if_neg (by omega),List.append_nil,List.append_nil]
    ·rw [if_neg hb,List.append_nil,List.append_nil];by_cases h1:v<k
     ·rw [if_pos h1,if_pos (by omega)]
     ·rw [if_neg h1,if_neg (by omega)]
 rw [e,if_pos (by omega)]
theorem ElR.lastC(h:ElR n f m es perm vars rs kf pf R){v:Nat}(hv:v<f): lastC kf v=(bk (kf v) 32).length/\(bk (kf v ||| 2^v) 32).length=(bk (kf v) 32).length+1:=by
 unfold Go.Proofs.YtefpailelagbkaaGreatDoor.lastC;rw [h.last hv];simp
theorem ElR.rlt(h:ElR n f m es perm vars rs kf pf R){v:Nat}(hv:v<f): Lt [] (R v):=(h.rows v (by have:=h.pm.fn;omega)).1
theorem ElR.rl(h:ElR n f m es perm vars rs kf pf R){v:Nat}(hv:v<f): ∀ y∈R v,y.length=Go.Proofs.YtefpailelagbkaaGreatDoor.lastC kf v+1:=λy hy=>by
 obtain ⟨z,_,rfl,_⟩:=((h.rows v (by have:=h.pm.fn;omega)).2.1 y).1 hy;rw [Jqx,(h.lastC hv).2,(h.lastC hv).1]
theorem ElR.big(h:ElR n f m es perm vars rs kf pf R)(c:Nat)(k:Row): TV n f kf pf R ds (plO perm f) c k<=4294967296^20 :=
 Xdm h.chf h.pm.fn h.n32 (λc hc=>by
  rcases h.par hc with ⟨h1,_⟩|⟨p,h1,h2,_⟩
  ·exact .inl h1
  ·exact .inr ⟨p,h1,(h.kbit hc h2).1⟩) (λu v hu hv=>h.pm.inj hu hv) (λi hi=>h.pm.hits hi) (λv hv=>h.pm.plN hv) (λv hv=>h.rlt hv) (λv hv=>h.rl hv) (λv hv=>(h.rows v hv).2.2) c k
noncomputable def Xwp(n f m:Nat)(perm:List Nat)(vars:Nat->List Nat)(rs:Nat->List Row)(kf:Nat->Nat)(pf:Nat->Int)(R:Nat->List Row)(ds:List Bool): BX V :=
 ⟨V0,n,f,λv=>bk (kf v) 32,pf,plO perm f,(List.range m).map λi=>(vars i,rs i),TV n f kf pf R ds (plO perm f),
  λv k=>entK (Qxm (ds.getD v false) (λx=>wtL (TV n f kf pf R ds (plO perm f)) x (chK kf pf v n)) (Go.Proofs.YtefpailelagbkaaGreatDoor.lastC kf v) (R v)) k⟩
theorem ElR.W(h:ElR n f m es perm vars rs kf pf R){T:Nat->Row->Nat}{v:Nat}(z:Row): ∀ k,k<=n->wtL T (pmR (bk (kf v ||| 2^v) 32) z) (chK kf pf v k)=Jjz k λc=>if pf c=(v:Int) then T c (pmR (bk (kf c) 32) z) else 1
 | 0,_=>rfl
 | k+1,hk=>by
  rw [Jht,Jhz,h.W z k (by omega),Jjz];congr 1
  split
  ·rename_i hp;rw [wtL,wtL,Nat.mul_one,Qlb λu hu=>h.sub (by omega) hp hu]
  ·rfl
theorem ElR.bag(h:ElR n f m es perm vars rs kf pf R){v:Nat}(hv:v<n)(z:Row): Qtq m vars rs (kf v ||| 2^v) z↔(Xwp n f m perm vars rs kf pf R ds).bag v z:=by
 have key:∀ i j,i<m->j<(vars i).length->((kf v ||| 2^v).testBit ((vars i).getD j 0)=true↔((vars i).getD j 0=v∨(vars i).getD j 0∈bk (kf v) 32)):=λi j hi hj=>by
  rw [h.kmem hv,Nat.testBit_or,Nat.testBit_two_pow,Bool.or_eq_true,decide_eq_true_eq];constructor
  ·rintro (h'|h')
   ·exact .inr h'
   ·exact .inl h'.symm
  ·rintro (h'|h')
   ·exact .inr h'.symm
   ·exact .inl h'
 constructor
 ·intro hb a ha;obtain ⟨i,hi,rfl⟩:=List.mem_map.1 ha;have hi:=List.mem_range.1 hi;obtain ⟨r,hr,h1⟩:=hb i hi;exact ⟨r,hr,λj hj hu=>h1 j hj ((key i j hi hj).2 hu)⟩
 ·intro hb i hi;obtain ⟨r,hr,h1⟩:=hb (vars i,rs i) (List.mem_map.2 ⟨i,List.mem_range.2 hi,rfl⟩);exact ⟨r,hr,λj hj hu=>h1 j hj ((key i j hi hj).1 hu)⟩
theorem ElR.ok(h:ElR n f m es perm vars rs kf pf R): (Xwp n f m perm vars rs kf pf R ds).Ok:=by
 have hfn:=h.pm.fn;have hn:=h.n32;refine ⟨hfn,λv hv=>h.pm.plN hv,λu v hu hv e=>h.pm.inj hu hv e,λv hv u hu=>h.kbit hv ((h.kmem hv).1 hu),λv hv=>?_,λv hv p hp x hx=>?_,λa ha v hva hmin u hua=>?_,λu v hu hvu=>?_,λu v hu hv hvn=>h.pm.plLow hu hv hvn,λa ha=>?_,λv hf hv k=>?_,λv hv k=>?_⟩
 ·rcases h.par hv with ⟨h1,h2⟩|⟨p,h1,h2,h3⟩
  ·refine .inl ⟨?_,h1⟩;refine List.eq_nil_iff_forall_not_mem.2 λu hu=>?_;have:=(h.kmem hv).1 hu;rw [h2 u]at this;cases this
  ·exact .inr ⟨p,h1,(h.kmem hv).2 h2,λu hu=>h3 u ((h.kmem hv).1 hu)⟩
 ·have hp':pf v=(p:Int):=hp;have h1:=h.sub hv hp' ((h.kmem hv).1 hx);rw [Nat.testBit_or,Nat.testBit_two_pow,Bool.or_eq_true,decide_eq_true_eq]at h1;rcases h1 with h1|h1
  ·exact .inr ((h.kmem (h.chf v p hv hp').1).2 h1)
  ·exact .inl h1.symm
 ·obtain ⟨i,hi,rfl⟩:=List.mem_map.1 ha;have hi:=List.mem_range.1 hi;simp only at hva hmin hua;by_cases e:u=v
  ·exact .inl e
  ·refine .inr ?_;have hvn:=h.lt i hi v hva;have hun:=h.lt i hi u hua;have hkb:(kf v).testBit u=true:=by
    rw [(h.bags v hvn).2.1];refine Qrz ?_ e ((Jtb h.pm.ond (h.pm.omem.2 hvn) (h.pm.omem.2 hun)).2 (hmin u hua));simp only [nb0,Bool.and_eq_true,decide_eq_true_eq,bne_iff_ne,List.any_eq_true];exact ⟨⟨hvn,e⟩,es.getD i 0,getD_mem' 0 es (by rw [h.el];exact hi),(h.eb i hi v).2 hva,(h.eb i hi u).2 hua⟩
   exact (h.kmem hvn).2 hkb
 ·have hu':u<f:=hu;show plO perm f u<plO perm f v;rw [h.pm.plFree hu',h.pm.plFree (by omega)];omega
 ·obtain ⟨i,hi,rfl⟩:=List.mem_map.1 ha;have hi:=List.mem_range.1 hi;exact ⟨h.lt i hi,h.len i hi⟩
 ·have hf':f<=v:=hf;have hv':v<n:=hv;refine ⟨Qpc h.chf v hf' k,?_⟩;show 0<TV n f kf pf R ds (plO perm f) v k↔_;rw [Qzj h.chf hv' hf',redT_pos];constructor
  ·rintro ⟨x,hx,h1,h2⟩;obtain ⟨z,hz,rfl,hb⟩:=((h.rows v hv').2.1 x).1 hx;refine ⟨z,hz,(h.bag hv' z).1 hb,?_,?_⟩
   ·rw [<-h2];exact (Qlb (λu hu=>by rw [Nat.testBit_or,hu];rfl) z).symm
   ·rw [h.W z n (Nat.le_refl _)]at h1;exact h1
  ·rintro ⟨z,hz,hb,h2,h1⟩;refine ⟨pmR (bk (kf v ||| 2^v) 32) z,((h.rows v hv').2.1 _).2 ⟨z,hz,rfl,(h.bag hv' z).2 hb⟩,?_,?_⟩
   ·rw [h.W z n (Nat.le_refl _)];exact h1
   ·rw [<-h2];exact Qlb (λu hu=>by rw [Nat.testBit_or,hu];rfl) z
 ·have hv':v<f:=hv;have hvn:v<n:=by omega
  have hg:=(Jdz (d:=ds.getD v false) (wt:=λx=>wtL (TV n f kf pf R ds (plO perm f)) x (chK kf pf v n)) (h.rlt hv') (h.rl hv')).entK k;refine ⟨?_,λp=>?_⟩
  ·show TV n f kf pf R ds (plO perm f) v k=_;rw [Qjc h.chf hfn hv',Qzw];rfl
  ·show p∈entK _ k↔_;rw [hg,Qbd,entL_mem];have hl:=h.last hv';have hlc:=(h.lastC hv').1;have e1:∀ z:Row,(pmR (bk (kf v ||| 2^v) 32) z).take (Go.Proofs.YtefpailelagbkaaGreatDoor.lastC kf v)=pmR (bk (kf v) 32) z:=λz=>by
    rw [hl,hlc];unfold pmR;rw [List.map_append,List.take_left' (by simp)]
   have e2:∀ z:Row,(pmR (bk (kf v ||| 2^v) 32) z).getD (Go.Proofs.YtefpailelagbkaaGreatDoor.lastC kf v) V0=z.getD v V0:=λz=>by
    rw [hl,hlc];unfold pmR;rw [List.map_append];simp only [List.getD];rw [List.getElem?_append_right (by simp)];simp
   constructor
   ·rintro ⟨x,hx,h1,h2,h3,h4⟩;obtain ⟨z,hz,rfl,hb⟩:=((h.rows v hvn).2.1 x).1 hx;refine ⟨z,hz,(h.bag hvn z).1 hb,?_,?_,?_,h4⟩
    ·rw [<-h1,e1];rfl
    ·rw [<-h2,e2];rfl
    ·rw [<-h3,h.W z n (Nat.le_refl _)];rfl
   ·rintro ⟨z,hz,hb,h1,h2,h3,h4⟩;refine ⟨pmR (bk (kf v ||| 2^v) 32) z,((h.rows v hvn).2.1 _).2 ⟨z,hz,rfl,(h.bag hvn z).2 hb⟩,?_,?_,?_,h4⟩
    ·rw [e1,<-h1];rfl
    ·rw [e2,<-h2];rfl
    ·rw [h.W z n (Nat.le_refl _),h3];rfl
theorem ElR.srt(h:ElR n f m es perm vars rs kf pf R): (Xwp n f m perm vars rs kf pf R ds).ix.Srt ds:=by
 refine ⟨rfl,λv hv k=>?_⟩;have hv':v<f:=hv;show Xwd _ (entK _ k);rw [(Jdz (h.rlt hv') (h.rl hv')).entK];exact Qsm (Qsj (h.rlt hv') (h.rl hv') k)
end
open Go.RowKit Pl Go.Wk
attribute [local irreducible] WC WL QX WD WDB WP WN WG
def Qjq(n:Nat)(pf:Nat->Int)(T:Nat->Row->Nat)(ats:List Atm): Nat:=if ats.any (λa=>a.rows.isEmpty) then 0 else Jjz n λv=>if pf v = -1 then T v [] else 1
theorem Qcw{n k:Nat}{g:Nat->Nat}(hk:k<n)(h:g k=0): Jjz n g=0:=by
 rcases Nat.eq_zero_or_pos (Jjz n g) with h'|h'
 ·exact h'
 ·have:=prodR_pos.1 h' k hk;omega
theorem Jkr{S:Nat}(hS:1<=S): ∀ {n:Nat} {g:Nat->Nat},(∀ c,c<n->g c<=S)->Jjz n g<=S^n
 | 0,_,_=>Nat.le_refl _
 | n+1,g,h=>by
  rw [Jjz,Nat.pow_succ];exact Nat.mul_le_mul (Jkr hS λc hc=>h c (by omega)) (h n (by omega))
theorem Qch{B0 n f b cb cv ct:Nat}{kf:Nat->Nat}{pf:Nat->Int}{R:Nat->List Row}{vR Dv Pv Av Kv:Value}{BA VA TA:Option Addr}{wF w:World}{va ta:List Value}{T:Nat->Row->Nat}{ats:List Atm}{AR:Nat->Prop}(hF:FixW B0 n f kf pf R vR BA wF)(hW:BldW wF b n (bCs n f Dv Pv Av BA cb vR VA cv TA ct Kv) VA cv TA ct w va ta)(hAv:GV 3 AtG wF Av ats)(hpf:∀ c,c<n->pf c = -1∨∃ p:Nat,pf c=p)(hdv:∀ c,c<n->f<=c->DnV AR (T c) w (va.getD c (.map none)))(hdt:∀ c,c<n->c<f->DnT AR (T c) w (ta.getD c (.map none)))(hroot:∀ c,c<n->pf c = -1->f<=c->∀ k,0<T c k->k=[])(hT1:∀ c,f<=c->∀ k,T c k<=1)(hTb:∀ c k,T c k<=4294967296^20):
  Ret Tryz.prog 85 [.pointer (some ⟨b,0,none⟩)] w λu w'=>NatV w' u (Qjq n pf T ats)/\Fresh w u/\Ext w w':=by
 have hfn0:Fresh w (.slice none 0 0):=λad m c e=>by cases e
 obtain ⟨hxF,hB,hVa,hTa⟩:=hW;have hn32:=hF.n32;obtain ⟨AA,ac,acs,rfl,hac,ham,hAr,hAe⟩:=hAv.parts;refine Jjb Tryz.func85 Tryz.ntmps85 rfl (by kernel_rfl) rfl ?_;refine ρ ?_;refine ld (hB.at (i:=4) rfl) ?_;refine ρ ?_;refine Jqn (fun (i:Nat)=>[(0,.pointer (some ⟨b,0,none⟩)),(2,.slice none 0 0),(12,.slice AA ats.length ac),(13,.int .i64 (ats.length:Int)),(14,.int .i64 (i:Int))])
  (λi w'=>i<=ats.length/\Ext w w'/\∀ j (hj:j<ats.length),j<i->ats[j].rows≠[]) (λi=>ats.length-i) 0 sB ⟨Nat.zero_le _,Ext.refl _,λj hj h=>by omega⟩ ?_
 rintro i w1 ⟨hi,hx1,hne⟩;refine ρ ?_;refine ci (λh=>?_) (λh=>?_)
 ·have li:i<ats.length:=by have:=of_decide_eq_true h;omega
  clear h;have hxF1:=hxF.trans hx1;obtain ⟨ce,hcl,⟨⟨t1,t2,t3⟩,rfl,hAt⟩,hcell⟩:=hAe i li;obtain ⟨⟨PA,pc,ep1,hpc,hpm,hpr⟩,ep2,hprows⟩:=id hAt;simp only at ep1 ep2;obtain ⟨pps,PG,pgc,els,ep3,_⟩:=id hprows;simp only at ep3 els;subst ep1;subst ep2;subst ep3;have hcell1:∀ j u,([.slice PA ats[i].vars.length pc,.int .i64 (ats[i].ar:Int),.slice PG pps.length pgc]:List Value)[j]?=some u->w1.cell? ((adr AA (i*3)).add j)=some u:=λj u hu=>Jws hxF1 (hcell j u hu);refine ρ ?_;refine ixq 3 i (hAr.ext hxF1) li ?_;refine ρ ?_;refine lds (cs:=[.slice PA ats[i].vars.length pc,.int .i64 (ats[i].ar:Int),.slice PG pps.length pgc]) hcell1 ?_;refine ρ ?_;refine alc (cs:=[.slice none 0 0,.int .i64 0,.slice none 0 0]) Jdg ?_;intro w2 bb hx2 hbb hBB;refine ρ ?_;refine stb (cs':=[.slice PA ats[i].vars.length pc,.int .i64 (ats[i].ar:Int),.slice PG pps.length pgc]) hBB ?_ (Xjl rfl);intro w3 hBB3 hg3 hx3;have hx13:Ext w1 w3:=hx3 w1 hx2 hbb
  refine ρ ?_;refine lds (cs:=[.int .i64 (ats[i].ar:Int),.slice PG pps.length pgc]) (λj u hu=>hBB3.sub (i:=1) (j:=j) (by rw [Nat.add_comm];exact hu)) ?_;refine ρ ?_;refine cl (Jvl (hAt.ext (hxF1.trans hx13)).rel) ?_;rintro u w4 ⟨rfl,hx4⟩;refine ρ ?_;refine ci (λh=>?_) (λh=>?_)
  ·have h0:ats[i].rows.length=0:=by have:=Jql h;omega
   refine ρ ?_;refine Jjq ⟨?_,hfn0,(hx1.trans hx13).trans hx4⟩;have e:Qjq n pf T ats=0:=by
    unfold Qjq;rw [if_pos];exact List.any_eq_true.2 ⟨ats[i],List.getElem_mem li,by rw [List.isEmpty_iff];exact List.eq_nil_of_length_eq_zero h0⟩
   rw [e];exact NatV.nil _
  ·have h0:ats[i].rows.length≠0:=λe=>by have:=Jqh h;omega
   refine ρ ?_;refine Jjt (i+1) sO ⟨li,(hx1.trans hx13).trans hx4,λj hj hji=>?_⟩ (by omega);by_cases e:j=i
   ·subst e;intro e2;rw [e2]at h0;exact h0 rfl
   ·exact hne j hj (by omega)
 have hi':i=ats.length:=by have:=of_decide_eq_false h;omega
 clear h;have hany:ats.any (λa=>a.rows.isEmpty)=false:=by
  rw [List.any_eq_false];intro a ha he;obtain ⟨j,hj,rfl⟩:=List.getElem_of_mem ha;exact hne j hj (by omega) (List.isEmpty_iff.1 he)
 have etot:Qjq n pf T ats=Jjz n λv=>if pf v = -1 then T v [] else 1:=by unfold Qjq;rw [hany];rfl
 rw [etot];clear etot hany hne hi';obtain ⟨g,hg⟩:∃ g:Nat->Nat,g=λv=>if pf v = -1 then T v [] else 1:=⟨_,rfl⟩
 rw [<-hg];have hgS:∀ v,g v<=4294967296^20:=λv=>by
  rw [hg];simp only;split
  ·exact hTb _ _
  ·exact Nat.pow_pos (by decide)
 have hnb:∀ k,k<=n->Nb (Jjz k g):=λk hk=>Nb.pow (k:=k) (Jkr (Nat.pow_pos (by decide)) λc _=>hgS c) (by omega);have hgb:∀ v,Nb (g v):=λv=>Nb.pow (k:=1) (by rw [Nat.pow_one];exact hgS v) (by omega);refine ρ ?_;refine cl (Jzf 1 (by decide) _) ?_;rintro vp w2 ⟨hp2,hf2,hx2⟩;have hx02:=hx1.trans hx2;refine ρ ?_;refine ld ((hB.ext hx02).at (i:=5) rfl) ?_;refine ρ ?_;refine Jjv (fun (k:Nat) (vp:Value)=>[(0,.pointer (some ⟨b,0,none⟩)),(2,.slice none 0 0),(5,vp),(27,.slice BA n cb),(28,.int .i64 (n:Int)),(29,.int .i64 (k:Int))])
  (λk vp w'=>k<=n/\Ext w w'/\NatV w' vp (Jjz k g)/\Fresh w vp) (λk _=>n-k) 0 vp sB ⟨Nat.zero_le _,hx02,hp2,λad m c e=>Nat.le_trans hx1.size (hf2 ad m c e)⟩ ?_
 clear hf2 hp2 hx02 hx2 vp w2;rintro k vp w3 ⟨hk,hx3,hp3,hf3⟩;refine ρ ?_;refine ci (λh=>?_) (λh=>?_)
 ·have lk:k<n:=by have:=of_decide_eq_true h;omega
  clear h;have hcellB:∀ j u,(Jyh kf pf k)[j]?=some u->w3.cell? ((adr BA (k*3)).add j)=some u:=λj u hu=>by
   have hj:j<3:=by
    rcases Nat.lt_or_ge j 3 with h'|h'
    ·exact h'
    ·rw [List.getElem?_eq_none (by simp [Jyh];omega)]at hu;cases hu
   rw [Jqw];exact (hF.bags.ext (hxF.trans hx3)).cell ((Jwr (sz:=3) (λ_ _=>rfl) lk hj).trans hu)
  refine ρ ?_;refine ixq 3 k (hF.bags.ext (hxF.trans hx3)) lk ?_;refine ρ ?_;refine lds (cs:=Jyh kf pf k) hcellB ?_;refine ρ ?_;refine alc (cs:=[.int .i64 0,.int .u32 0,.int .i64 0]) zBag ?_;intro w4 bb hx4 hbb hBB;refine ρ ?_;refine stb (cs':=Jyh kf pf k) hBB ?_ Jfx;intro w5 hBB5 hg5 hx5;have hx35:Ext w3 w5:=hx5 w3 hx4 hbb;have hx05:=hx3.trans hx35;refine ρ ?_;refine ld (hBB5.at (i:=2) rfl) ?_;refine ρ ?_;refine ci (λh=>?_) (λh=>?_)
  ·have hne:pf k≠-1:=by have:=of_decide_eq_true h;omega
   refine ρ ?_;refine Jjj (k+1) vp sO ⟨lk,hx05,?_,hf3⟩ (by omega);have e:Jjz (k+1) g=Jjz k g:=by rw [Jjz,hg];simp only;rw [if_neg hne,Nat.mul_one]
   rw [e];exact hp3.ext hx35
  ·have hp:pf k = -1:=by
    have:=of_decide_eq_false h;rcases hpf k lk with h'|⟨p,h'⟩
    ·exact h'
    ·omega
   have egk:g k=T k []:=by rw [hg];simp only;rw [if_pos hp]
   have hB5:=hB.ext hx05;refine ρ ?_;refine ld (hB5.at (i:=1) rfl) ?_;refine ρ ?_;refine ci (λh=>?_) (λh=>?_)
   ·have lf:k<f:=by have:=of_decide_eq_true h;omega
    obtain ⟨mb,m,fm,e1,e2,⟨e3,e4⟩,e5⟩:=hdt k lk lf;have htl:ta[k]?=some (.map (some mb)):=by
     rw [<-e1];have hl:=hTa.1;simp [List.getD,List.getElem?_eq_getElem (show k<ta.length by omega)]
    have hxd:Ext w5 w5.drew:=(Ext.refl w5).drew;have hx0d:=hx05.trans hxd;have hTd:=(Rd.own hTa).ext hx0d;have hfit:FitR []:=⟨by simp,λv hv=>by cases hv⟩;refine ρ ?_;refine dr [(0,0),(0,1),(0,2),(0,3),(0,4),(0,5),(0,6),(0,7),(1,8),(0,9),(1,10),(0,11)] (by kernel_rfl) ?_;refine ρd ?_;refine dld ((hB.ext hx0d).at (i:=8) rfl) ?_;refine ρd ?_;refine dix k hTd lk ?_;refine ρd ?_;refine dld (hTd.cell htl) ?_;refine ρd ?_;refine dcl (Jzp (r:=[]) (A:=none) (c:=0) (hF.tb.ext (hxF.trans hx0d)) Rd.nil (λu hu=>by cases hu) (by have:=hfit.len;omega) (by simp)) ?_;rintro un w6 ⟨rfl,hx6⟩;refine ⟨hx6,?_⟩;refine ρd ?_;refine dmlk KS (e3.ext (hx0d.trans hx6)) zNat (Jck hfit) ?_;have hval:NatV w6 ((fm (.string (idn []))).getD (.slice none 0 0)) (g k):=by
     rw [egk];rcases e5 []with ⟨h6,h7⟩|⟨y,h6,h7,h8⟩
     ·rw [h6,h7];exact NatV.nil _
     ·rw [h6];exact h8.1.ext (hx0d.trans hx6)
    refine ρd ?_;refine dcl (Jbn (hp3.ext ((hx35.trans hxd).trans hx6)) hval (hnb k hk).len (hgb k).len) ?_;rintro vr w7 ⟨hr7,hfr7,hx7⟩;refine ⟨hx7,?_⟩;refine ρd ?_;refine ρ ?_;exact Jjj (k+1) vr sO ⟨lk,(hx0d.trans hx6).trans hx7,hr7,λad m c e=>Nat.le_trans (hx0d.trans hx6).size (hfr7 ad m c e)⟩ (by omega)
   ·have lf:f<=k:=by have:=of_decide_eq_false h;omega
    obtain ⟨mb,m,fm,e1,e2,⟨e3,e4⟩,e5,e6⟩:=hdv k lk lf;have htl:va[k]?=some (.map (some mb)):=by
     rw [<-e1];have hl:=hVa.1;simp [List.getD,List.getElem?_eq_getElem (show k<va.length by omega)]
    have hV5:=(Rd.own hVa).ext hx05;refine ρ ?_;refine ld (hB5.at (i:=7) rfl) ?_;refine ρ ?_;refine ix k hV5 lk ?_;refine ρ ?_;refine ld (hV5.cell htl) ?_;refine ρ ?_;refine mln KS (e3.ext hx05) ?_;intro q hq;refine ρ ?_;refine ci (λh=>?_) (λh=>?_)
    ·have h0:q=0:=by have:=Jql h;omega
     have h1:=hq.1 h0 (.string (idn []));rw [e5]at h1;have h2:T k []=0:=by
      rcases Nat.eq_zero_or_pos (T k []) with h'|h'
      ·exact h'
      ·rw [if_pos h']at h1;cases h1
     refine ρ ?_;refine Jjq ⟨?_,hfn0,hx05⟩;rw [Qcw lk (by rw [egk,h2])];exact NatV.nil _
    ·have h0:¬ q=0:=λe=>by have:=Jqh h;omega
     have h1:0<T k []:=by
      refine Classical.byContradiction λh'=>h0 (hq.2 λkl=>?_);cases hfk:fm kl with
      | none=>rfl
      | some x=>
       obtain ⟨r,rfl⟩:=e6 kl (by rw [hfk];simp);rw [e5]at hfk;split at hfk
       ·rename_i hr;rw [hroot k lk hp lf r hr]at hr;exact absurd hr h'
       ·cases hfk
     refine ρ ?_;refine Jjj (k+1) vp sO ⟨lk,hx05,?_,hf3⟩ (by omega);have h2:=hT1 k lf [];have e:Jjz (k+1) g=Jjz k g:=by rw [Jjz,egk,show T k []=1 by omega,Nat.mul_one]
     rw [e];exact hp3.ext hx35
 have hk':k=n:=by have:=of_decide_eq_false h;omega
 rw [hk']at hp3;refine ρ ?_;exact Jjq ⟨hp3,hf3,hx3⟩
end Go.Proofs.YtefpailelagbkaaGreatDoor
