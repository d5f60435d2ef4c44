/- Part 33 of the proof: Pw, IxP, Ix7. -/
import Derived.Test.YtefpailelagbkaaGreatDoorJ32
set_option linter.unusedVariables false
set_option maxRecDepth 100000
set_option maxHeartbeats 40000000
namespace Go.Proofs.YtefpailelagbkaaGreatDoor
open Pl Go.Wk
def Jcg: Nat->(Nat->Nat)->Nat
 | 0,_=>0
 | n+1,g=>Jcg n g+g n
theorem Jdt{n:Nat}{g h:Nat->Nat}(e:∀ c,c<n->g c=h c): Jcg n g=Jcg n h:=by
 induction n with
 | zero=>rfl
 | succ n ih=>rw [Jcg,Jcg,ih (λc i=>e c (by omega)),e n (by omega)]
theorem Qkk(n:Nat)(g h:Nat->Nat): Jcg n (λc=>g c+h c)=Jcg n g+Jcg n h:=by
 induction n with
 | zero=>rfl
 | succ n ih=>rw [Jcg,Jcg,Jcg,ih];omega
theorem Jtc{n:Nat}{g:Nat->Nat}(e:∀ c,c<n->g c=0): Jcg n g=0:=by
 induction n with
 | zero=>rfl
 | succ n ih=>rw [Jcg,ih (λc i=>e c (by omega)),e n (by omega)]
theorem Qtx{n k:Nat}(g:Nat->Nat)(hk:k<n): g k<=Jcg n g:=by
 induction n with
 | zero=>omega
 | succ n ih=>
  rw [Jcg];by_cases e:k=n
  ·subst e;omega
  ·have:=ih (by omega);omega
theorem Qms{n v:Nat}(x:Nat)(hv:v<n): Jcg n (λc=>if c=v then x else 0)=x:=by
 induction n with
 | zero=>omega
 | succ n ih=>
  rw [Jcg];by_cases e:v=n
  ·subst e;rw [if_pos rfl,Jtc λc i=>if_neg (by omega)];omega
  ·rw [if_neg (λh=>e h.symm),ih (by omega)];omega
theorem pw2(a b s t:Nat)(h:a*s<=b*t): (2^a)^s<=(2^b)^t:=by
 rw [<-Nat.pow_mul,<-Nat.pow_mul];exact Nat.pow_le_pow_right (by decide) h
theorem Jsv{T T':Nat->Row->Nat}{x:Row}: ∀ {l:List (Nat×List Nat)},(∀ p∈l,T p.1=T' p.1)->wtL T x l=wtL T' x l
 | [],_=>rfl
 | p::l,h=>by rw [wtL,wtL,h p mC,Jsv λq hq=>h q (List.mem_cons_of_mem _ hq)]
section
variable (n f:Nat) (kf:Nat->Nat) (pf:Nat->Int) (R:Nat->List Row) (ds:List Bool)
def lastC(v:Nat): Nat:=(bk (kf v ||| 2^v) 32).length-1
noncomputable def Jps(T:Nat->Row->Nat)(v:Nat): Row->Nat :=
 if v<n then (if v<f then Qdt (Qjm (ds.getD v false) (λx=>wtL T x (chK kf pf v n)) (lastC kf v) (R v)) else Qcs (R v) (Jnw kf v) λx=>wtL T x (chK kf pf v n)) else λ_=>0
noncomputable def TF: Nat->Nat->Row->Nat
 | 0=>λ_ _=>0
 | s+1=>λv=>Jps n f kf pf R ds (TF s) v
noncomputable def TV(pl:Nat->Nat)(v:Nat): Row->Nat:=TF n f kf pf R ds (pl v+1) v
variable {n f:Nat} {kf:Nat->Nat} {pf:Nat->Int} {R:Nat->List Row} {ds:List Bool}
theorem Jhl{T T':Nat->Row->Nat}{v:Nat}(h:∀ c,c<n->pf c=(v:Int)->T c=T' c): Jps n f kf pf R ds T v=Jps n f kf pf R ds T' v:=by
 have e:(λx=>wtL T x (chK kf pf v n))=λx=>wtL T' x (chK kf pf v n):=by
  funext x
  exact Jsv λp i=>by obtain ⟨o,j,_⟩:=Jcl i;exact h _ o j
 unfold Jps;rw [e]
def ChF(n:Nat)(pf:Nat->Int)(pl:Nat->Nat): Prop:=∀ c v:Nat,c<n->pf c=(v:Int)->v<n/\pl c<pl v
theorem Qlz{pl:Nat->Nat}(hch:ChF n pf pl): ∀ (s s' v:Nat),v<n->pl v<s->pl v<s'->TF n f kf pf R ds s v=TF n f kf pf R ds s' v
 | 0,_,_,_,h,_=>by omega
 | s+1,0,_,_,_,h=>by omega
 | s+1,s'+1,v,hv,h1,h2=>Jhl λc hc hp=>by
  have:=(hch c v hc hp).2;exact Qlz hch s s' c hc (by omega) (by omega)
theorem Xyk{pl:Nat->Nat}(hch:ChF n pf pl){v:Nat}(hv:v<n): TV n f kf pf R ds pl v=Jps n f kf pf R ds (TV n f kf pf R ds pl) v :=
 Jhl λc i j=>by
  have:=(hch c v i j).2;exact Qlz hch (pl v) (pl c+1) c i (by omega) (by omega)
theorem Qtc{pl:Nat->Nat}{v:Nat}(hv:¬ v<n)(k:Row): TV n f kf pf R ds pl v k=0:=by
 show Jps n f kf pf R ds _ v k=0;unfold Jps;rw [if_neg hv]
theorem Jsp{pl:Nat->Nat}(hch:ChF n pf pl)(hfn:f<=n){v:Nat}(hv:v<f): TV n f kf pf R ds pl v=Qdt (Qjm (ds.getD v false) (λx=>wtL (TV n f kf pf R ds pl) x (chK kf pf v n)) (lastC kf v) (R v)):=by
 rw [Xyk hch (by omega)];unfold Jps;rw [if_pos (by omega),if_pos hv]
theorem Qqj{pl:Nat->Nat}(hch:ChF n pf pl){v:Nat}(hv:v<n)(hf:f<=v): TV n f kf pf R ds pl v=Qcs (R v) (Jnw kf v) λx=>wtL (TV n f kf pf R ds pl) x (chK kf pf v n):=by
 rw [Xyk hch hv];unfold Jps;rw [if_pos hv,if_neg (by omega)]
section
variable (n) (pf)
def stF: Nat->Nat->Nat
 | 0=>λ_=>0
 | s+1=>λv=>1+Jcg n λc=>if pf c=(v:Int) then stF s c else 0
def stV(pl:Nat->Nat)(v:Nat): Nat:=stF n pf (pl v+1) v
end
theorem Qkl{pl:Nat->Nat}(hch:ChF n pf pl): ∀ (s s' v:Nat),v<n->pl v<s->pl v<s'->stF n pf s v=stF n pf s' v
 | 0,_,_,_,h,_=>by omega
 | s+1,0,_,_,_,h=>by omega
 | s+1,s'+1,v,hv,h1,h2=>by
  show 1+_=1+_;congr 1
  refine Jdt λc hc=>?_;split
  ·rename_i hp;have:=(hch c v hc hp).2;exact Qkl hch s s' c hc (by omega) (by omega)
  ·rfl
theorem Qrs{pl:Nat->Nat}(hch:ChF n pf pl){v:Nat}(hv:v<n): stV n pf pl v=1+Jcg n λc=>if pf c=(v:Int) then stV n pf pl c else 0:=by
 show 1+_=1+_;congr 1
 refine Jdt λc i=>?_;split
 ·rename_i hp;have:=(hch c v i hp).2;exact Qkl hch (pl v) (pl c+1) c i (by omega) (by omega)
 ·rfl
theorem Qrr{pl:Nat->Nat}(hch:ChF n pf pl)(hpf:∀ c,c<n->pf c = -1∨∃ p:Nat,pf c=p/\p<n)(hin:∀ u v,u<n->v<n->pl u=pl v->u=v)(hat:∀ i,i<n->∃ v,v<n/\pl v=i):
  ∀ i,i<=n->Jcg n (λc=>if pl c<i/\(pf c = -1∨i<=pl (pf c).toNat) then stV n pf pl c else 0)=i
 | 0,_=>Jtc λc _=>if_neg (by omega)
 | i+1,hi=>by
  have ih:=Qrr hch hpf hin hat i (by omega);obtain ⟨v,hv,hpv⟩:=hat i (by omega);have e1:Jcg n (λc=>(if pl c<i+1/\(pf c = -1∨i+1<=pl (pf c).toNat) then stV n pf pl c else 0)+if pf c=(v:Int) then stV n pf pl c else 0)=Jcg n (λc=>(if pl c<i/\(pf c = -1∨i<=pl (pf c).toNat) then stV n pf pl c else 0)+if c=v then stV n pf pl v else 0):=by
   refine Jdt λc hc=>?_;by_cases ec:c=v
   ·subst ec;have hne:pf c≠(c:Int):=λe=>by have:=(hch c c hc e).2;omega
    rw [if_neg hne,if_pos rfl,if_neg (show ¬ (pl c<i/\_) by omega)];rw [if_pos]
    ·omega
    refine ⟨by omega,?_⟩;rcases hpf c hc with h|⟨p,h,_⟩
    ·exact .inl h
    ·have:=(hch c p hc h).2;rw [h];right;simp only [Int.toNat_natCast];omega
   ·rw [if_neg ec];have hnp:pl c≠i:=λe=>ec (hin c v hc hv (by omega));by_cases ep:pf c=(v:Int)
    ·have h1:=(hch c v hc ep).2;have h2:pl (pf c).toNat=i:=by rw [ep];simp only [Int.toNat_natCast];exact hpv
     rw [if_pos ep,if_neg (show ¬ (pl c<i+1/\(pf c = -1∨i+1<=pl (pf c).toNat)) by omega),if_pos (show pl c<i/\(pf c = -1∨i<=pl (pf c).toNat) from ⟨by omega,.inr (by omega)⟩)];omega
    ·rw [if_neg ep];have h3:(pl c<i+1/\(pf c = -1∨i+1<=pl (pf c).toNat))↔(pl c<i/\(pf c = -1∨i<=pl (pf c).toNat)):=by
      rcases hpf c hc with h|⟨p,h,hp⟩
      ·simp only [h,true_or,and_true];omega
      ·have h4:pl p≠i:=λe=>ep (by rw [h,hin p v hp hv (by omega)]);rw [h];simp only [Int.toNat_natCast];omega
     simp only [h3]
  rw [Qkk,Qkk,Qms _ hv,ih,Qrs hch hv]at e1;omega
theorem Xkk{pl:Nat->Nat}(hch:ChF n pf pl)(hpf:∀ c,c<n->pf c = -1∨∃ p:Nat,pf c=p/\p<n)(hin:∀ u v,u<n->v<n->pl u=pl v->u=v)(hat:∀ i,i<n->∃ v,v<n/\pl v=i)(hpl:∀ v,v<n->pl v<n){v:Nat}(hv:v<n): stV n pf pl v<=n:=by
 have C:=Qrr hch hpf hin hat (pl v+1) (hpl v hv);have j:=Qtx (n:=n) (λc=>if pl c<pl v+1/\(pf c = -1∨pl v+1<=pl (pf c).toNat) then stV n pf pl c else 0) hv;rw [C]at j;have o:pl v<pl v+1/\(pf v = -1∨pl v+1<=pl (pf v).toNat):=by
  refine ⟨by omega,?_⟩;rcases hpf v hv with h|⟨p,h,_⟩
  ·exact .inl h
  ·have:=(hch v p hv h).2;rw [h];right;simp only [Int.toNat_natCast];omega
 simp only [o,and_self,if_true]at j;have:=hpl v hv;omega
theorem Qdb{T:Nat->Row->Nat}{x:Row}{st:Nat->Nat}{kf:Nat->Nat}{pf:Nat->Int}{v n:Nat}(hT:∀ c,c<n->pf c=(v:Int)->∀ k,T c k<=65536^st c): ∀ k,k<=n->wtL T x (chK kf pf v k)<=65536^Jcg k (λc=>if pf c=(v:Int) then st c else 0)
 | 0,_=>Nat.le_refl _
 | k+1,hk=>by
  have ih:=Qdb (T:=T) (x:=x) (kf:=kf) hT k (by omega);rw [Jgt,Jgx,Jcg,Nat.pow_add];refine Nat.mul_le_mul ih ?_;split
  ·rename_i hp;rw [wtL,wtL,Nat.mul_one];exact hT k (by omega) hp _
  ·exact Nat.le_refl _
theorem Jhh{wt:Row->Nat}{m S:Nat}(h:∀ x,wt x<=S)(k:Row): ∀ rs:List Row,tot (Jbh wt m rs k)<=rs.length*S
 | []=>by simp [Jbh,tot]
 | x::rs=>by
  have ih:=Jhh (m:=m) h k rs;have e:tot (Jbh wt m (x::rs) k)<=wt x+tot (Jbh wt m rs k):=by
   unfold Jbh;rw [List.filter_cons];split
   ·rw [List.map_cons,tot];exact Nat.le_refl _
   ·omega
  have:=h x;rw [List.length_cons,Nat.succ_mul];omega
theorem Xyj{pl:Nat->Nat}(hch:ChF n pf pl)(hfn:f<=n)(hlt:∀ v,v<f->Lt [] (R v))(hl:∀ v,v<f->∀ y∈R v,y.length=lastC kf v+1)(hR:∀ v,v<n->(R v).length<=65536):
  ∀ (s v:Nat),v<n->pl v<s->∀ k,TV n f kf pf R ds pl v k<=65536^stV n pf pl v
 | 0,_,_,h,_=>by omega
 | s+1,v,hv,hs,k=>by
  have hW:∀ x,wtL (TV n f kf pf R ds pl) x (chK kf pf v n)<=65536^Jcg n (λc=>if pf c=(v:Int) then stV n pf pl c else 0):=λx=>
   Qdb (λc hc hp k=>Xyj hch hfn hlt hl hR s c hc (by have:=(hch c v hc hp).2;omega) k) n (Nat.le_refl _)
  rw [Qrs hch hv,Nat.pow_add,Nat.pow_one];by_cases hf:v<f
  ·rw [Jsp hch hfn hf,Qqv,(Jdg (hlt v hf) (hl v hf)).entK,Jgs];exact nL (Jhh hW k _) (nO _ (hR v hv))
  ·rw [Qqj hch hv (by omega)];refine nL Qfs ?_;exact Nat.mul_pos (by decide) (Nat.pow_pos (by decide))
theorem Qlx{pl:Nat->Nat}(hch:ChF n pf pl)(c:Nat)(hc:f<=c)(k:Row): TV n f kf pf R ds pl c k<=1:=by
 by_cases h:c<n
 ·rw [Qqj hch h hc];exact Qfs
 ·rw [Qtc h];omega
theorem Xyl{pl:Nat->Nat}(hch:ChF n pf pl)(hfn:f<=n)(hn:n<=32)(hpf:∀ c,c<n->pf c = -1∨∃ p:Nat,pf c=p/\p<n)(hin:∀ u v,u<n->v<n->pl u=pl v->u=v)(hat:∀ i,i<n->∃ v,v<n/\pl v=i)(hpl:∀ v,v<n->pl v<n)(hlt:∀ v,v<f->Lt [] (R v))(hl:∀ v,v<f->∀ y∈R v,y.length=lastC kf v+1)(hR:∀ v,v<n->(R v).length<=65536)(c:Nat)(k:Row): TV n f kf pf R ds pl c k<=4294967296^20:=by
 by_cases h:c<n
 ·refine nL (Xyj hch hfn hlt hl hR (pl c+1) c h (by omega) k) ?_;have o:=Xkk hch hpf hin hat hpl h;have j:=pw2 16 32 (stV n pf pl c) 20 (by omega);rw [show (65536:Nat)=2^16 by decide,show (4294967296:Nat)=2^32 by decide];exact j
 ·rw [Qtc h];omega
end
open Pl Go.Wk
structure ElR(n f m:Nat)(es perm:List Nat)(vars:Nat->List Nat)(rs:Nat->List Row)(kf:Nat->Nat)(pf:Nat->Int)(R:Nat->List Row): Prop where
 pm:PermOk n f perm
 n32:n<=32
 lt:∀ i,i<m->∀ v∈vars i,v<n
 len:∀ i,i<m->∀ r∈rs i,r.length=(vars i).length
 el:es.length=m
 eb:∀ i,i<m->∀ u,(es.getD i 0).testBit u=true↔u∈vars i
 ep:∀ e∈es,e<2^n
 bags:Qmg n es (Jzl perm f) kf pf
 rows:∀ v,v<n->Jsq n m vars rs (kf v ||| 2^v) (R v)
section
variable {n f m:Nat} {es perm:List Nat} {vars:Nat->List Nat} {rs:Nat->List Row} {kf:Nat->Nat} {pf:Nat->Int} {R:Nat->List Row} {ds:List Bool}
abbrev plO(perm:List Nat)(f:Nat): Nat->Nat:=plc (Jzl perm f)
theorem PermOk.plN(h:PermOk n f perm){v:Nat}(hv:v<n): plO perm f v<n:=by
 have:=(Jyq h.ond (h.omem.2 hv)).1;rw [h.olen]at this;exact this
theorem PermOk.inj(h:PermOk n f perm){u v:Nat}(hu:u<n)(hv:v<n)(e:plO perm f u=plO perm f v): u=v:=by
 rw [<-(Jyq h.ond (h.omem.2 hu)).2,<-(Jyq h.ond (h.omem.2 hv)).2];show (Jzl perm f).getD (plO perm f u) 0=(Jzl perm f).getD (plO perm f v) 0;rw [e]
theorem PermOk.hits(h:PermOk n f perm){i:Nat}(hi:i<n): ∃ v,v<n/\plO perm f v=i:=by
 have j:i<(Jzl perm f).length:=by rw [h.olen];exact hi
 exact ⟨(Jzl perm f).getD i 0,h.olt (getD_mem' 0 _ j),Jlb h.ond j⟩
theorem PermOk.plPerm(h:PermOk n f perm){i:Nat}(hi:i<perm.length): plO perm f (perm.getD i 0)=i:=by
 have j:i<(Jzl perm f).length:=by simp [Jzl];omega
 have e:(Jzl perm f).getD i 0=perm.getD i 0:=by simp [Jzl,List.getD,List.getElem?_append_left hi]
 rw [<-e];exact Jlb h.ond j
theorem PermOk.plFree(h:PermOk n f perm){u:Nat}(hu:u<f): plO perm f u=perm.length+(f-1-u):=by
 have i:perm.length+(f-1-u)<(Jzl perm f).length:=by simp [Jzl];omega
 have e:(Jzl perm f).getD (perm.length+(f-1-u)) 0=u:=by
  simp only [Jzl,List.getD];rw [List.getElem?_append_right (by omega),Nat.add_sub_cancel_left,List.getElem?_reverse (by simp;omega),List.length_range,List.getElem?_range (by omega)];simp only [Option.getD_some];omega
 have:=Jlb h.ond i;rw [e]at this;exact this
theorem PermOk.plLow(h:PermOk n f perm){u v:Nat}(hu:u<f)(hv:f<=v)(hn:v<n): plO perm f v<plO perm f u:=by
 have o:v∈perm:=by
  have:=h.omem.2 hn;rcases List.mem_append.1 this with j|j
  ·exact j
  ·have:=List.mem_range.1 (List.mem_reverse.1 j);omega
 obtain ⟨i,hi,e⟩:=List.getElem_of_mem o;have j:=h.plPerm hi;rw [Jjh 0 _ hi,e]at j;rw [j,h.plFree hu];omega
theorem ElR.inv(h:ElR n f m es perm vars rs kf pf R): NbInv [] (nb0 n es):=Qgj h.ep
theorem ElR.kbit(h:ElR n f m es perm vars rs kf pf R){v u:Nat}(hv:v<n)(hu:(kf v).testBit u=true): u<n/\plO perm f v<plO perm f u:=by
 obtain ⟨_,G,_⟩:=h.bags v hv;rw [G]at hu;have i:u<n:=Qwp (nb:=nb0 n es) (ord:=Jzl perm f) (N:=n) (λa b j=>(Jns h.ep j).2.1) hu;obtain ⟨D,C⟩:=Jrp h.inv h.pm.ond (h.pm.omem.2 hv) hu;have o:=(Jrn h.pm.ond (h.pm.omem.2 hv) (h.pm.omem.2 i)).1 D;refine ⟨i,?_⟩;rcases Nat.lt_or_ge (plO perm f v) (plO perm f u) with h6|h6
 ·exact h6
 ·exact absurd (h.pm.inj i hv (Nat.le_antisymm h6 o)) C
theorem ElR.kmem(h:ElR n f m es perm vars rs kf pf R){v u:Nat}(hv:v<n): u∈bk (kf v) 32↔(kf v).testBit u=true:=by
 rw [bk_mem];have:=h.n32;exact ⟨λi=>i.2,λi=>⟨by have:=(h.kbit hv i).1;omega,i⟩⟩
theorem ElR.par(h:ElR n f m es perm vars rs kf pf R){v:Nat}(hv:v<n): (pf v = -1/\∀ u,(kf v).testBit u=false)∨∃ p:Nat,pf v=p/\(kf v).testBit p=true/\∀ u,(kf v).testBit u=true->plO perm f p<=plO perm f u:=by
 obtain ⟨_,o,i⟩:=h.bags v hv;rcases i with ⟨i,j⟩|⟨p,i,j,h5⟩
 ·exact .inl ⟨i,λu=>by rw [o];exact j u⟩
 ·exact .inr ⟨p,i,by rw [o];exact j,λu C=>h5 u (by rw [<-o];exact C)⟩
theorem ElR.chf(h:ElR n f m es perm vars rs kf pf R): ChF n pf (plO perm f):=λc v o j=>by
 rcases h.par o with ⟨i,_⟩|⟨p,i,h2,_⟩
 ·rw [i]at j;omega
 ·have e:p=v:=by rw [i]at j;omega
  subst e;exact h.kbit o h2
theorem ElR.sub(h:ElR n f m es perm vars rs kf pf R){c v u:Nat}(hc:c<n)(hp:pf c=(v:Int))(hu:(kf c).testBit u=true): (kf v ||| 2^v).testBit u=true:=by
 have j:=(h.chf c v hc hp).1;rw [Nat.testBit_or,Nat.testBit_two_pow,Bool.or_eq_true,decide_eq_true_eq];by_cases e:u=v
 ·exact .inr e.symm
 ·refine .inl ?_;obtain ⟨_,C,_⟩:=h.bags c hc;obtain ⟨_,o,_⟩:=h.bags v j;rcases h.par hc with ⟨D,_⟩|⟨p,D,h2,h3⟩
  ·rw [D]at hp;omega
  ·have ev:p=v:=by rw [D]at hp;omega
   subst ev;rw [o];refine Qbj h.inv h.pm.ond (h.pm.omem.2 hc) (h.pm.omem.2 j) (by rw [<-C];exact h2) (λx G=>?_) (by rw [<-C];exact hu) e;have i:(kf c).testBit x=true:=by rw [C];exact G
   exact (Jrn h.pm.ond (h.pm.omem.2 j) (h.pm.omem.2 (h.kbit hc i).1)).2 (h3 x i)
theorem Xwr{s t:Nat}(h:∀ u,t.testBit u=true->s.testBit u=true): inS (bk s 32) t=bk t 32:=by
 unfold inS bk;rw [List.filter_filter];refine List.filter_congr λu _=>?_;cases e:t.testBit u with
 | false=>simp
 | true=>simp [h u e]
theorem Qfz{s t:Nat}(h:∀ u,t.testBit u=true->s.testBit u=true)(z:Row): pmR (Jqx (bk s 32) t) (pmR (bk s 32) z)=pmR (bk t 32) z:=by
 have:=Qgb (bk s 32) t z (bk s 32).length (Nat.le_refl _);rw [List.take_length,Xwr h]at this;exact this
theorem ElR.last(h:ElR n f m es perm vars rs kf pf R){v:Nat}(hv:v<f): bk (kf v ||| 2^v) 32=bk (kf v) 32++[v]:=by
 have hn:=h.n32;have C:=h.pm.fn;have i:∀ u,(kf v).testBit u=true->u<v:=λu o=>by
  obtain ⟨j,D⟩:=h.kbit (by omega) o;rcases Nat.lt_or_ge u f with h3|h3
  ·rw [h.pm.plFree hv,h.pm.plFree h3]at D;omega
  ·have:=h.pm.plLow hv h3 j;omega
 have e:∀ k,bk (kf v ||| 2^v) k=bk (kf v) k++if v<k then [v] else []:=by
  intro k;induction k with
  | zero=>rfl
  | succ k ih=>
   rw [Jyp,Jyp,ih,Nat.testBit_or,Nat.testBit_two_pow];by_cases e:v=k
   ·subst e;rw [if_neg (Nat.lt_irrefl v),if_pos (Nat.lt_succ_self v)];have:(kf v).testBit v=false:=by
     cases hb:(kf v).testBit v with
     | false=>rfl
     | true=>have:=i v hb;omega
    rw [this];simp
   ·rw [decide_eq_false e,Bool.or_false];by_cases hb:(kf v).testBit k=true
    ·have:=i k hb;rw [if_pos hb,if_neg (by omega),if_neg (by omega),List.append_nil,List.append_nil]
    ·rw [if_neg hb,List.append_nil,List.append_nil];by_cases j:v<k
     ·rw [if_pos j,if_pos (by omega)]
     ·rw [if_neg j,if_neg (by omega)]
 rw [e,if_pos (by omega)]
theorem ElR.lastC(h:ElR n f m es perm vars rs kf pf R){v:Nat}(hv:v<f): lastC kf v=(bk (kf v) 32).length/\(bk (kf v ||| 2^v) 32).length=(bk (kf v) 32).length+1:=by
 unfold Go.Proofs.YtefpailelagbkaaGreatDoor.lastC;rw [h.last hv];simp
theorem ElR.rlt(h:ElR n f m es perm vars rs kf pf R){v:Nat}(hv:v<f): Lt [] (R v):=(h.rows v (by have:=h.pm.fn;omega)).1
theorem ElR.rl(h:ElR n f m es perm vars rs kf pf R){v:Nat}(hv:v<f): ∀ y∈R v,y.length=Go.Proofs.YtefpailelagbkaaGreatDoor.lastC kf v+1:=λy i=>by
 obtain ⟨z,_,rfl,_⟩:=((h.rows v (by have:=h.pm.fn;omega)).2.1 y).1 i;rw [Jxb,(h.lastC hv).2,(h.lastC hv).1]
theorem ElR.big(h:ElR n f m es perm vars rs kf pf R)(c:Nat)(k:Row): TV n f kf pf R ds (plO perm f) c k<=4294967296^20 :=
 Xyl h.chf h.pm.fn h.n32 (λc C=>by
  rcases h.par C with ⟨o,_⟩|⟨p,o,h2,_⟩
  ·exact .inl o
  ·exact .inr ⟨p,o,(h.kbit C h2).1⟩) (λu v D j=>h.pm.inj D j) (λi hi=>h.pm.hits hi) (λv j=>h.pm.plN j) (λv j=>h.rlt j) (λv j=>h.rl j) (λv j=>(h.rows v j).2.2) c k
noncomputable def Xxz(n f m:Nat)(perm:List Nat)(vars:Nat->List Nat)(rs:Nat->List Row)(kf:Nat->Nat)(pf:Nat->Int)(R:Nat->List Row)(ds:List Bool): BX V :=
 ⟨V0,n,f,λv=>bk (kf v) 32,pf,plO perm f,(List.range m).map λi=>(vars i,rs i),TV n f kf pf R ds (plO perm f),
  λv k=>entK (Qjm (ds.getD v false) (λx=>wtL (TV n f kf pf R ds (plO perm f)) x (chK kf pf v n)) (Go.Proofs.YtefpailelagbkaaGreatDoor.lastC kf v) (R v)) k⟩
theorem ElR.W(h:ElR n f m es perm vars rs kf pf R){T:Nat->Row->Nat}{v:Nat}(z:Row): ∀ k,k<=n->wtL T (pmR (bk (kf v ||| 2^v) 32) z) (chK kf pf v k)=Jjz k λc=>if pf c=(v:Int) then T c (pmR (bk (kf c) 32) z) else 1
 | 0,_=>rfl
 | k+1,hk=>by
  rw [Jgt,Jgx,h.W z k (by omega),Jjz];congr 1
  split
  ·rename_i hp;rw [wtL,wtL,Nat.mul_one,Qfz λu hu=>h.sub (by omega) hp hu]
  ·rfl
theorem ElR.bag(h:ElR n f m es perm vars rs kf pf R){v:Nat}(hv:v<n)(z:Row): Qrj m vars rs (kf v ||| 2^v) z↔(Xxz n f m perm vars rs kf pf R ds).bag v z:=by
 have key:∀ i j,i<m->j<(vars i).length->((kf v ||| 2^v).testBit ((vars i).getD j 0)=true↔((vars i).getD j 0=v∨(vars i).getD j 0∈bk (kf v) 32)):=λi j hi u=>by
  rw [h.kmem hv,Nat.testBit_or,Nat.testBit_two_pow,Bool.or_eq_true,decide_eq_true_eq];constructor
  ·rintro (o|o)
   ·exact .inr o
   ·exact .inl o.symm
  ·rintro (o|o)
   ·exact .inr o.symm
   ·exact .inl o
 constructor
 ·intro G a O;obtain ⟨i,hi,rfl⟩:=List.mem_map.1 O;have hi:=List.mem_range.1 hi;obtain ⟨r,D,J⟩:=G i hi;exact ⟨r,D,λj u C=>J j u ((key i j hi u).2 C)⟩
 ·intro G i hi;obtain ⟨r,D,J⟩:=G (vars i,rs i) (List.mem_map.2 ⟨i,List.mem_range.2 hi,rfl⟩);exact ⟨r,D,λj u C=>J j u ((key i j hi u).1 C)⟩
theorem ElR.ok(h:ElR n f m es perm vars rs kf pf R): (Xxz n f m perm vars rs kf pf R ds).Ok:=by
 have a4:=h.pm.fn;have hn:=h.n32;refine ⟨a4,λv C=>h.pm.plN C,λu v G C e=>h.pm.inj G C e,λv C u G=>h.kbit C ((h.kmem C).1 G),λv C=>?_,λv C p hp x hx=>?_,λa ha v a1 U u O=>?_,λu v G a9=>?_,λu v G C j=>h.pm.plLow G C j,λa ha=>?_,λv hf C k=>?_,λv C k=>?_⟩
 ·rcases h.par C with ⟨D,J⟩|⟨p,D,J,h3⟩
  ·refine .inl ⟨?_,D⟩;refine List.eq_nil_iff_forall_not_mem.2 λu G=>?_;have:=(h.kmem C).1 G;rw [J u]at this;cases this
  ·exact .inr ⟨p,D,(h.kmem C).2 J,λu G=>h3 u ((h.kmem C).1 G)⟩
 ·have a2:pf v=(p:Int):=hp;have D:=h.sub C a2 ((h.kmem C).1 hx);rw [Nat.testBit_or,Nat.testBit_two_pow,Bool.or_eq_true,decide_eq_true_eq]at D;rcases D with D|D
  ·exact .inr ((h.kmem (h.chf v p C a2).1).2 D)
  ·exact .inl D.symm
 ·obtain ⟨i,hi,rfl⟩:=List.mem_map.1 ha;have hi:=List.mem_range.1 hi;simp only at a1 U O;by_cases e:u=v
  ·exact .inl e
  ·refine .inr ?_;have j:=h.lt i hi v a1;have a6:=h.lt i hi u O;have a8:(kf v).testBit u=true:=by
    rw [(h.bags v j).2.1];refine Qns ?_ e ((Jrn h.pm.ond (h.pm.omem.2 j) (h.pm.omem.2 a6)).2 (U u O));simp only [nb0,Bool.and_eq_true,decide_eq_true_eq,bne_iff_ne,List.any_eq_true];exact ⟨⟨j,e⟩,es.getD i 0,getD_mem' 0 es (by rw [h.el];exact hi),(h.eb i hi v).2 a1,(h.eb i hi u).2 O⟩
   exact (h.kmem j).2 a8
 ·have a7:u<f:=G;show plO perm f u<plO perm f v;rw [h.pm.plFree a7,h.pm.plFree (by omega)];omega
 ·obtain ⟨i,hi,rfl⟩:=List.mem_map.1 ha;have hi:=List.mem_range.1 hi;exact ⟨h.lt i hi,h.len i hi⟩
 ·have a5:f<=v:=hf;have o:v<n:=C;refine ⟨Qlx h.chf v a5 k,?_⟩;show 0<TV n f kf pf R ds (plO perm f) v k↔_;rw [Qqj h.chf o a5,redT_pos];constructor
  ·rintro ⟨x,hx,D,J⟩;obtain ⟨z,Z,rfl,hb⟩:=((h.rows v o).2.1 x).1 hx;refine ⟨z,Z,(h.bag o z).1 hb,?_,?_⟩
   ·rw [<-J];exact (Qfz (λu G=>by rw [Nat.testBit_or,G];rfl) z).symm
   ·rw [h.W z n (Nat.le_refl _)]at D;exact D
  ·rintro ⟨z,Z,hb,J,D⟩;refine ⟨pmR (bk (kf v ||| 2^v) 32) z,((h.rows v o).2.1 _).2 ⟨z,Z,rfl,(h.bag o z).2 hb⟩,?_,?_⟩
   ·rw [h.W z n (Nat.le_refl _)];exact D
   ·rw [<-J];exact Qfz (λu G=>by rw [Nat.testBit_or,G];rfl) z
 ·have o:v<f:=C;have j:v<n:=by omega
  have hg:=(Jdg (d:=ds.getD v false) (wt:=λx=>wtL (TV n f kf pf R ds (plO perm f)) x (chK kf pf v n)) (h.rlt o) (h.rl o)).entK k;refine ⟨?_,λp=>?_⟩
  ·show TV n f kf pf R ds (plO perm f) v k=_;rw [Jsp h.chf a4 o,Qqv];rfl
  ·show p∈entK _ k↔_;rw [hg,Qwz,entL_mem];have hl:=h.last o;have a3:=(h.lastC o).1;have e1:∀ z:Row,(pmR (bk (kf v ||| 2^v) 32) z).take (Go.Proofs.YtefpailelagbkaaGreatDoor.lastC kf v)=pmR (bk (kf v) 32) z:=λz=>by
    rw [hl,a3];unfold pmR;rw [List.map_append,List.take_left' (by simp)]
   have e2:∀ z:Row,(pmR (bk (kf v ||| 2^v) 32) z).getD (Go.Proofs.YtefpailelagbkaaGreatDoor.lastC kf v) V0=z.getD v V0:=λz=>by
    rw [hl,a3];unfold pmR;rw [List.map_append];simp only [List.getD];rw [List.getElem?_append_right (by simp)];simp
   constructor
   ·rintro ⟨x,hx,D,J,h3,h4⟩;obtain ⟨z,Z,rfl,hb⟩:=((h.rows v j).2.1 x).1 hx;refine ⟨z,Z,(h.bag j z).1 hb,?_,?_,?_,h4⟩
    ·rw [<-D,e1];rfl
    ·rw [<-J,e2];rfl
    ·rw [<-h3,h.W z n (Nat.le_refl _)];rfl
   ·rintro ⟨z,Z,hb,D,J,h3,h4⟩;refine ⟨pmR (bk (kf v ||| 2^v) 32) z,((h.rows v j).2.1 _).2 ⟨z,Z,rfl,(h.bag j z).2 hb⟩,?_,?_,?_,h4⟩
    ·rw [e1,<-D];rfl
    ·rw [e2,<-J];rfl
    ·rw [h.W z n (Nat.le_refl _),h3];rfl
theorem ElR.srt(h:ElR n f m es perm vars rs kf pf R): (Xxz n f m perm vars rs kf pf R ds).ix.Srt ds:=by
 refine ⟨rfl,λv j k=>?_⟩;have i:v<f:=j;show Xxn _ (entK _ k);rw [(Jdg (h.rlt i) (h.rl i)).entK];exact Qpf (Qpb (h.rlt i) (h.rl i) k)
end
open Go.RowKit Pl Go.Wk
attribute [local irreducible] WC WL QX WD WDB WP WN WG
def Jsx(n:Nat)(pf:Nat->Int)(T:Nat->Row->Nat)(ats:List Atm): Nat:=if ats.any (λa=>a.rows.isEmpty) then 0 else Jjz n λv=>if pf v = -1 then T v [] else 1
theorem Qyt{n k:Nat}{g:Nat->Nat}(hk:k<n)(h:g k=0): Jjz n g=0:=by
 rcases Nat.eq_zero_or_pos (Jjz n g) with h'|h'
 ·exact h'
 ·have:=prodR_pos.1 h' k hk;omega
theorem Jkj{S:Nat}(hS:1<=S): ∀ {n:Nat} {g:Nat->Nat},(∀ c,c<n->g c<=S)->Jjz n g<=S^n
 | 0,_,_=>Nat.le_refl _
 | n+1,g,h=>by
  rw [Jjz,Nat.pow_succ];exact Nat.mul_le_mul (Jkj hS λc hc=>h c (by omega)) (h n (by omega))
theorem Qyd{B0 n f b cb cv ct:Nat}{kf:Nat->Nat}{pf:Nat->Int}{R:Nat->List Row}{vR Dv Pv Av Kv:Value}{BA VA TA:Option Addr}{wF w:World}{va ta:List Value}{T:Nat->Row->Nat}{ats:List Atm}{AR:Nat->Prop}(hF:FixW B0 n f kf pf R vR BA wF)(hW:BldW wF b n (bCs n f Dv Pv Av BA cb vR VA cv TA ct Kv) VA cv TA ct w va ta)(hAv:GV 3 AtG wF Av ats)(hpf:∀ c,c<n->pf c = -1∨∃ p:Nat,pf c=p)(hdv:∀ c,c<n->f<=c->DnV AR (T c) w (va.getD c (.map none)))(hdt:∀ c,c<n->c<f->DnT AR (T c) w (ta.getD c (.map none)))(hroot:∀ c,c<n->pf c = -1->f<=c->∀ k,0<T c k->k=[])(hT1:∀ c,f<=c->∀ k,T c k<=1)(hTb:∀ c k,T c k<=4294967296^20):
  Ret Tryz.prog 85 [.pointer (some ⟨b,0,none⟩)] w λu w'=>NatV w' u (Jsx n pf T ats)/\Fresh w u/\Ext w w':=by
 have ae:Fresh w (.slice none 0 0):=λad m c e=>by cases e
 obtain ⟨a6,hB,az,b3⟩:=hW;have bm:=hF.n32;obtain ⟨AA,ac,bw,rfl,bv,bu,bi,bj⟩:=hAv.parts;refine Jjc Tryz.func85 Tryz.ntmps85 rfl (by kernel_rfl) rfl ?_;refine ρ ?_;refine ld (hB.at (i:=4) rfl) ?_;refine ρ ?_;refine Jqw (fun (i:Nat)=>[(0,.pointer (some ⟨b,0,none⟩)),(2,.slice none 0 0),(12,.slice AA ats.length ac),(13,.int .i64 (ats.length:Int)),(14,.int .i64 (i:Int))])
  (λi w'=>i<=ats.length/\Ext w w'/\∀ j (hj:j<ats.length),j<i->ats[j].rows≠[]) (λi=>ats.length-i) 0 sB ⟨Nat.zero_le _,Ext.refl _,λj hj h=>by omega⟩ ?_
 rintro i w1 ⟨hi,Z,a3⟩;refine ρ ?_;refine ci (λh=>?_) (λh=>?_)
 ·have li:i<ats.length:=by have:=oT h;omega
  clear h;have O:=a6.trans Z;obtain ⟨ce,bt,⟨⟨t1,t2,t3⟩,rfl,b7⟩,ak⟩:=bj i li;obtain ⟨⟨PA,pc,ba,bp,bo,bn⟩,b9,a9⟩:=id b7;simp only at ba b9;obtain ⟨a4,PG,a5,bl,b8,_⟩:=id a9;simp only at b8 bl;subst ba;subst b9;subst b8;have ab:∀ j u,([.slice PA ats[i].vars.length pc,.int .i64 (ats[i].ar:Int),.slice PG a4.length a5]:List Value)[j]?=some u->w1.cell? ((adr AA (i*3)).add j)=some u:=λj u hu=>Jwf O (ak j u hu);refine ρ ?_;refine ixq 3 i (bi.ext O) li ?_;refine ρ ?_;refine lds (cs:=[.slice PA ats[i].vars.length pc,.int .i64 (ats[i].ar:Int),.slice PG a4.length a5]) ab ?_;refine ρ ?_;refine alc Jcp ?_;intro w2 bb a8 am an;refine ρ ?_;refine stb (cs':=[.slice PA ats[i].vars.length pc,.int .i64 (ats[i].ar:Int),.slice PG a4.length a5]) an ?_ (Qsd rfl);intro w3 b5 bs J;have U:Ext w1 w3:=J w1 a8 am;refine ρ ?_;refine lds (cs:=[.int .i64 (ats[i].ar:Int),.slice PG a4.length a5]) (λj u hu=>b5.sub (i:=1) (j:=j) (by rw [Nat.add_comm];exact hu)) ?_
  refine ρ ?_;refine cl (Jww (b7.ext (O.trans U)).rel) ?_;rintro u w4 ⟨rfl,a7⟩;refine ρ ?_;refine ci (λh=>?_) (λh=>?_)
  ·have h0:ats[i].rows.length=0:=by have:=Jqn h;omega
   refine ρ ?_;refine Jjr ⟨?_,ae,(Z.trans U).trans a7⟩;have e:Jsx n pf T ats=0:=by
    unfold Jsx;rw [if_pos];exact List.any_eq_true.2 ⟨ats[i],List.getElem_mem li,by rw [List.isEmpty_iff];exact List.eq_nil_of_length_eq_zero h0⟩
   rw [e];exact NatV.nil _
  ·have h0:ats[i].rows.length≠0:=λe=>by have:=Jqk h;omega
   refine ρ ?_;refine Jjx (i+1) sO ⟨li,(Z.trans U).trans a7,λj hj bq=>?_⟩ (by omega);by_cases e:j=i
   ·subst e;intro e2;rw [e2]at h0;exact h0 rfl
   ·exact a3 j hj (by omega)
 have bg:i=ats.length:=by have:=oF h;omega
 clear h;have ag:ats.any (λa=>a.rows.isEmpty)=false:=by
  rw [List.any_eq_false];intro a ha he;obtain ⟨j,hj,rfl⟩:=List.getElem_of_mem ha;exact a3 j hj (by omega) (List.isEmpty_iff.1 he)
 have ah:Jsx n pf T ats=Jjz n λv=>if pf v = -1 then T v [] else 1:=by unfold Jsx;rw [ag];rfl
 rw [ah];clear ah ag a3 bg;obtain ⟨g,hg⟩:∃ g:Nat->Nat,g=λv=>if pf v = -1 then T v [] else 1:=⟨_,rfl⟩
 rw [<-hg];have aw:∀ v,g v<=4294967296^20:=λv=>by
  rw [hg];simp only;split
  ·exact hTb _ _
  ·exact Nat.pow_pos (by decide)
 have be:∀ k,k<=n->Nb (Jjz k g):=λk hk=>Nb.pow (k:=k) (Jkj (Nat.pow_pos (by decide)) λc _=>aw c) (by omega);have bh:∀ v,Nb (g v):=λv=>Nb.pow (k:=1) (by rw [Nat.pow_one];exact aw v) (by omega);refine ρ ?_;refine cl (Jfc 1 (by decide) _) ?_;rintro vp w2 ⟨av,ay,a8⟩;have a1:=Z.trans a8;refine ρ ?_;refine ld ((hB.ext a1).at (i:=5) rfl) ?_;refine ρ ?_;refine Jqb (fun (k:Nat) (vp:Value)=>[(0,.pointer (some ⟨b,0,none⟩)),(2,.slice none 0 0),(5,vp),(27,.slice BA n cb),(28,.int .i64 (n:Int)),(29,.int .i64 (k:Int))])
  (λk vp w'=>k<=n/\Ext w w'/\NatV w' vp (Jjz k g)/\Fresh w vp) (λk _=>n-k) 0 vp sB ⟨Nat.zero_le _,a1,av,λad m c e=>nL Z.size (ay ad m c e)⟩ ?_
 clear ay av a1 a8 vp w2;rintro k vp w3 ⟨hk,J,a2,aj⟩;refine ρ ?_;refine ci (λh=>?_) (λh=>?_)
 ·have lk:k<n:=by have:=oT h;omega
  clear h;have aa:∀ j u,(Jvt kf pf k)[j]?=some u->w3.cell? ((adr BA (k*3)).add j)=some u:=λj u hu=>by
   have hj:j<3:=by
    rcases Nat.lt_or_ge j 3 with h'|h'
    ·exact h'
    ·rw [List.getElem?_eq_none (by simp [Jvt];omega)]at hu;cases hu
   rw [Jqr];exact (hF.bags.ext (a6.trans J)).cell ((Jwd (sz:=3) (λ_ _=>rfl) lk hj).trans hu)
  refine ρ ?_;refine ixq 3 k (hF.bags.ext (a6.trans J)) lk ?_;refine ρ ?_;refine lds (cs:=Jvt kf pf k) aa ?_;refine ρ ?_;refine alc zBag ?_;intro w4 bb a7 am an;refine ρ ?_;refine stb (cs':=Jvt kf pf k) an ?_ Jlf;intro w5 b4 br bc;have D:Ext w3 w5:=bc w3 a7 am;have C:=J.trans D;refine ρ ?_;refine ld (b4.at (i:=2) rfl) ?_;refine ρ ?_;refine ci (λh=>?_) (λh=>?_)
  ·have a3:pf k≠-1:=by have:=oT h;omega
   refine ρ ?_;refine Jjm (k+1) vp sO ⟨lk,C,?_,aj⟩ (by omega);have e:Jjz (k+1) g=Jjz k g:=by rw [Jjz,hg];simp only;rw [if_neg a3,Nat.mul_one]
   rw [e];exact a2.ext D
  ·have hp:pf k = -1:=by
    have:=oF h;rcases hpf k lk with h'|⟨p,h'⟩
    ·exact h'
    ·omega
   have ao:g k=T k []:=by rw [hg];simp only;rw [if_pos hp]
   have b6:=hB.ext C;refine ρ ?_;refine ld (b6.at (i:=1) rfl) ?_;refine ρ ?_;refine ci (λh=>?_) (λh=>?_)
   ·have lf:k<f:=by have:=oT h;omega
    obtain ⟨mb,m,fm,e1,e2,⟨e3,e4⟩,e5⟩:=hdt k lk lf;have ai:ta[k]?=some (.map (some mb)):=by
     rw [<-e1];have hl:=b3.1;simp [List.getD,List.getElem?_eq_getElem (show k<ta.length by omega)]
    have ap:Ext w5 w5.drew:=(Ext.refl w5).drew;have o:=C.trans ap;have b2:=(Rd.own b3).ext o;have af:FitR []:=⟨by simp,λv hv=>by cases hv⟩;refine ρ ?_;refine dr [(0,0),(0,1),(0,2),(0,3),(0,4),(0,5),(0,6),(0,7),(1,8),(0,9),(1,10),(0,11)] (by kernel_rfl) ?_;refine ρd ?_;refine dld ((hB.ext o).at (i:=8) rfl) ?_;refine ρd ?_;refine dix k b2 lk ?_;refine ρd ?_;refine dld (b2.cell ai) ?_;refine ρd ?_;refine dcl (Jzd (r:=[]) (A:=none) (c:=0) (hF.tb.ext (a6.trans o)) Rd.nil (λu hu=>by cases hu) (by have:=af.len;omega) (by simp)) ?_;rintro un w6 ⟨rfl,G⟩;refine ⟨G,?_⟩;refine ρd ?_;refine dmlk KS (e3.ext (o.trans G)) zNat (Jbx af) ?_;have au:NatV w6 ((fm (.string (idn []))).getD (.slice none 0 0)) (g k):=by
     rw [ao];rcases e5 []with ⟨h6,h7⟩|⟨y,h6,h7,h8⟩
     ·rw [h6,h7];exact NatV.nil _
     ·rw [h6];exact h8.1.ext (o.trans G)
    refine ρd ?_;refine dcl (Jbc (a2.ext ((D.trans ap).trans G)) au (be k hk).len (bh k).len) ?_;rintro vr w7 ⟨bd,ax,aq⟩;refine ⟨aq,?_⟩;refine ρd ?_;refine ρ ?_;exact Jjm (k+1) vr sO ⟨lk,(o.trans G).trans aq,bd,λad m c e=>nL (o.trans G).size (ax ad m c e)⟩ (by omega)
   ·have lf:f<=k:=by have:=oF h;omega
    obtain ⟨mb,m,fm,e1,e2,⟨e3,e4⟩,e5,e6⟩:=hdv k lk lf;have ai:va[k]?=some (.map (some mb)):=by
     rw [<-e1];have hl:=az.1;simp [List.getD,List.getElem?_eq_getElem (show k<va.length by omega)]
    have b1:=(Rd.own az).ext C;refine ρ ?_;refine ld (b6.at (i:=7) rfl) ?_;refine ρ ?_;refine ix k b1 lk ?_;refine ρ ?_;refine ld (b1.cell ai) ?_;refine ρ ?_;refine mln KS (e3.ext C) ?_;intro q hq;refine ρ ?_;refine ci (λh=>?_) (λh=>?_)
    ·have h0:q=0:=by have:=Jqn h;omega
     have h1:=hq.1 h0 (.string (idn []));rw [e5]at h1;have h2:T k []=0:=by
      rcases Nat.eq_zero_or_pos (T k []) with h'|h'
      ·exact h'
      ·rw [if_pos h']at h1;cases h1
     refine ρ ?_;refine Jjr ⟨?_,ae,C⟩;rw [Qyt lk (by rw [ao,h2])];exact NatV.nil _
    ·have h0:¬ q=0:=λe=>by have:=Jqk h;omega
     have h1:0<T k []:=by
      refine Classical.byContradiction λh'=>h0 (hq.2 λkl=>?_);cases hfk:fm kl with
      | none=>rfl
      | some x=>
       obtain ⟨r,rfl⟩:=e6 kl (by rw [hfk];simp);rw [e5]at hfk;split at hfk
       ·rename_i hr;rw [hroot k lk hp lf r hr]at hr;exact absurd hr h'
       ·cases hfk
     refine ρ ?_;refine Jjm (k+1) vp sO ⟨lk,C,?_,aj⟩ (by omega);have h2:=hT1 k lf [];have e:Jjz (k+1) g=Jjz k g:=by rw [Jjz,ao,show T k []=1 by omega,Nat.mul_one]
     rw [e];exact a2.ext D
 have bf:k=n:=by have:=oF h;omega
 rw [bf]at a2;refine ρ ?_;exact Jjr ⟨a2,aj,J⟩
end Go.Proofs.YtefpailelagbkaaGreatDoor
