/- Part 14. -/
import Derived.Test.YtebcagekopgdhaaGreatDoorG13
set_option linter.unusedVariables false
set_option maxRecDepth 100000
set_option maxHeartbeats 40000000
namespace Go.Proofs.YtebcagekopgdhaaGreatDoor
open Pl Go.Wk
variable {k n v:Nat}{g h pl:Nat->Nat}
def Qc: Nat->(Nat->Nat)->Nat
 | 0,_=>0
 | n+1,g=>Qc n g+g n
theorem Jcz(e:∀ c,c<n->g c=h c): Qc n g=Qc n h:=by
 induction n with
 | zero=>rfl
 | succ n ih=>rw [Qc,Qc,ih (λc o=>e c om),e n om]
theorem Jnv(n:Nat)(g h:Nat->Nat): Qc n (λc=>g c+h c)=Qc n g+Qc n h:=by
 induction n with
 | zero=>rfl
 | succ n ih=>rw [Qc,Qc,Qc,ih];omega
theorem Jns(e:∀ c,c<n->g c=0): Qc n g=0:=by
 induction n with
 | zero=>rfl
 | succ n ih=>rw [Qc,ih (λc o=>e c om),e n om]
theorem Qbq(g:Nat->Nat)(hk:k<n): g k<=Qc n g:=by
 induction n with
 | zero=>omega
 | succ n ih=>
  rw [Qc];by_cases e:k=n
  .subst e;omega
  .have:=ih om;omega
theorem Qbp(x:Nat)(hv:v<n): Qc n (λc=>if c=v then x else 0)=x:=by
 induction n with
 | zero=>omega
 | succ n ih=>
  rw [Qc];by_cases e:v=n
  .subst e;rw [if_pos rfl,Jns λc o=>if_neg om];omega
  .rw [if_neg (λh=>e h.symm),ih om];omega
theorem pw2(a b s t:Nat)(h:a*s<=b*t): (2^a)^s<=(2^b)^t:=by
 rw [<-Nat.pow_mul,<-Nat.pow_mul];exact Nat.pow_le_pow_right (by decide) h
theorem Jls{T T':Nat->Row->Nat}{x:Row}: ∀ {l:List (Nat×List Nat)},(∀ p∈l,T p.1=T' p.1)->wtL T x l=wtL T' x l
 | [],_=>rfl
 | p::l,h=>by rw [wtL,wtL,h p mC,Jls λq hq=>h q (List.mem_cons_of_mem _ hq)]
section
variable (n f:Nat) (kf:Nat->Nat) (pf:Nat->Int) (R:Nat->List Row) (ds:List Bool)
def lastC(v:Nat): Nat:=(bk (kf v ||| 2^v) 32).length-1
noncomputable def Gc(T:Nat->Row->Nat)(v:Nat): Row->Nat :=
 if v<n then (if v<f then Uk (Vq (ds.getD v false) (λx=>wtL T x (chK kf pf v n)) (lastC kf v) (R v)) else Yl (R v) (Zk kf v) λx=>wtL T x (chK kf pf v n)) else λ_=>0
noncomputable def TF: Nat->Nat->Row->Nat
 | 0=>λ_ _=>0
 | s+1=>λv=>Gc n f kf pf R ds (TF s) v
noncomputable def TV(pl:Nat->Nat)(v:Nat): Row->Nat:=TF n f kf pf R ds (pl v+1) v
variable {n f:Nat} {kf:Nat->Nat} {pf:Nat->Int} {R:Nat->List Row} {ds:List Bool}
theorem Jnw{T T':Nat->Row->Nat}(h:∀ c,c<n->pf c=(v:Int)->T c=T' c): Gc n f kf pf R ds T v=Gc n f kf pf R ds T' v:=by
 have e:(λx=>wtL T x (chK kf pf v n))=λx=>wtL T' x (chK kf pf v n):=by
  funext x
  exact Jls λp o=>by obtain ⟨C,u,_⟩:=Jjk o;exact h _ C u
 unfold Gc;rw [e]
def ChF(n:Nat)(pf:Nat->Int)(pl:Nat->Nat): Prop:=∀ c v:Nat,c<n->pf c=(v:Int)->v<n/\pl c<pl v
theorem Qwp{pl:Nat->Nat}(hch:ChF n pf pl): ∀ (s s' v:Nat),v<n->pl v<s->pl v<s'->TF n f kf pf R ds s v=TF n f kf pf R ds s' v
 | 0,_,_,_,h,_=>by omega
 | s+1,0,_,_,_,h=>by omega
 | s+1,s'+1,v,hv,h1,h2=>Jnw λc hc hp=>by
  have:=(hch c v hc hp).2;exact Qwp hch s s' c hc om om
theorem Qwn(hch:ChF n pf pl)(hv:v<n): TV n f kf pf R ds pl v=Gc n f kf pf R ds (TV n f kf pf R ds pl) v :=
 Jnw λc o u=>by
  have:=(hch c v o u).2;exact Qwp hch (pl v) (pl c+1) c o om om
theorem Qwl(hv:¬ v<n)(k:Row): TV n f kf pf R ds pl v k=0:=by
 show Gc n f kf pf R ds _ v k=0;unfold Gc;rw [if_neg hv]
theorem Jbv(hch:ChF n pf pl)(hfn:f<=n)(hv:v<f): TV n f kf pf R ds pl v=Uk (Vq (ds.getD v false) (λx=>wtL (TV n f kf pf R ds pl) x (chK kf pf v n)) (lastC kf v) (R v)):=by
 rw [Qwn hch om];unfold Gc;rw [if_pos om,if_pos hv]
theorem Jwr(hch:ChF n pf pl)(hv:v<n)(hf:f<=v): TV n f kf pf R ds pl v=Yl (R v) (Zk kf v) λx=>wtL (TV n f kf pf R ds pl) x (chK kf pf v n):=by
 rw [Qwn hch hv];unfold Gc;rw [if_pos hv,if_neg om]
section
variable (n) (pf)
def stF: Nat->Nat->Nat
 | 0=>λ_=>0
 | s+1=>λv=>1+Qc n λc=>if pf c=(v:Int) then stF s c else 0
def stV(pl:Nat->Nat)(v:Nat): Nat:=stF n pf (pl v+1) v
end
theorem Jpb{pl:Nat->Nat}(hch:ChF n pf pl): ∀ (s s' v:Nat),v<n->pl v<s->pl v<s'->stF n pf s v=stF n pf s' v
 | 0,_,_,_,h,_=>by omega
 | s+1,0,_,_,_,h=>by omega
 | s+1,s'+1,v,hv,h1,h2=>by
  show 1+_=1+_;congr 1
  refine Jcz λc hc=>?_;split
  .rename_i hp;have:=(hch c v hc hp).2;exact Jpb hch s s' c hc om om
  .rfl
theorem Jnz(hch:ChF n pf pl)(hv:v<n): stV n pf pl v=1+Qc n λc=>if pf c=(v:Int) then stV n pf pl c else 0:=by
 show 1+_=1+_;congr 1
 refine Jcz λc o=>?_;split
 .rename_i hp;have:=(hch c v o hp).2;exact Jpb hch (pl v) (pl c+1) c o om om
 .rfl
theorem Jnx{pl:Nat->Nat}(hch:ChF n pf pl)(hpf:∀ c,c<n->pf c = -1∨∃ p:Nat,pf c=p/\p<n)(hin:∀ u v,u<n->v<n->pl u=pl v->u=v)(hat:∀ i,i<n->∃ v,v<n/\pl v=i):
  ∀ i,i<=n->Qc n (λc=>if pl c<i/\(pf c = -1∨i<=pl (pf c).toNat) then stV n pf pl c else 0)=i
 | 0,_=>Jns λc _=>if_neg om
 | i+1,hi=>by
  have ih:=Jnx hch hpf hin hat i om;obtain ⟨v,hv,hpv⟩:=hat i om;have e1:Qc n (λc=>(if pl c<i+1/\(pf c = -1∨i+1<=pl (pf c).toNat) then stV n pf pl c else 0)+if pf c=(v:Int) then stV n pf pl c else 0)=Qc n (λc=>(if pl c<i/\(pf c = -1∨i<=pl (pf c).toNat) then stV n pf pl c else 0)+if c=v then stV n pf pl v else 0):=by
   refine Jcz λc hc=>?_;by_cases ec:c=v
   .subst ec;have hne:pf c≠(c:Int):=λe=>by have:=(hch c c hc e).2;omega
    rw [if_neg hne,if_pos rfl,if_neg (show ¬ (pl c<i/\_) by omega)];rw [if_pos]
    .omega
    refine ⟨om,?_⟩;rcases hpf c hc with h|⟨p,h,_⟩
    .exact .inl h
    .have:=(hch c p hc h).2;rw [h];right;simp only [Int.toNat_natCast];omega
   .rw [if_neg ec];have hnp:pl c≠i:=λe=>ec (hin c v hc hv om);by_cases ep:pf c=(v:Int)
    .have h1:=(hch c v hc ep).2;have h2:pl (pf c).toNat=i:=by rw [ep];simp only [Int.toNat_natCast];exact hpv
     rw [if_pos ep,if_neg (show ¬ (pl c<i+1/\(pf c = -1∨i+1<=pl (pf c).toNat)) by omega),if_pos (show pl c<i/\(pf c = -1∨i<=pl (pf c).toNat) from ⟨om,.inr om⟩)];omega
    .rw [if_neg ep];have h3:(pl c<i+1/\(pf c = -1∨i+1<=pl (pf c).toNat))↔(pl c<i/\(pf c = -1∨i<=pl (pf c).toNat)):=by
      rcases hpf c hc with h|⟨p,h,hp⟩
      .simp only [h,true_or,and_true];omega
      .have h4:pl p≠i:=λe=>ep (by rw [h,hin p v hp hv om]);rw [h];simp only [Int.toNat_natCast];omega
     simp only [h3]
  rw [Jnv,Jnv,Qbp _ hv,ih,Jnz hch hv]at e1;omega
theorem Qcd(hch:ChF n pf pl)(hpf:∀ c,c<n->pf c = -1∨∃ p:Nat,pf c=p/\p<n)(hin:∀ u v,u<n->v<n->pl u=pl v->u=v)(hat:∀ i,i<n->∃ v,v<n/\pl v=i)(hpl:∀ v,v<n->pl v<n)(hv:v<n): stV n pf pl v<=n:=by
 have G:=Jnx hch hpf hin hat (pl v+1) (hpl v hv);have o:=Qbq (n:=n) (λc=>if pl c<pl v+1/\(pf c = -1∨pl v+1<=pl (pf c).toNat) then stV n pf pl c else 0) hv;rw [G]at o;have C:pl v<pl v+1/\(pf v = -1∨pl v+1<=pl (pf v).toNat):=by
  refine ⟨om,?_⟩;rcases hpf v hv with h|⟨p,h,_⟩
  .exact .inl h
  .have:=(hch v p hv h).2;rw [h];right;simp only [Int.toNat_natCast];omega
 simp only [C,and_self,if_true]at o;have:=hpl v hv;omega
theorem Jlr{T:Nat->Row->Nat}{x:Row}{st:Nat->Nat}{kf:Nat->Nat}{pf:Nat->Int}{v n:Nat}(hT:∀ c,c<n->pf c=(v:Int)->∀ k,T c k<=65536^st c): ∀ k,k<=n->wtL T x (chK kf pf v k)<=65536^Qc k (λc=>if pf c=(v:Int) then st c else 0)
 | 0,_=>Nat.le_refl _
 | k+1,hk=>by
  have ih:=Jlr (T:=T) (x:=x) (kf:=kf) hT k om;rw [Jbm,Jzr,Qc,Nat.pow_add];refine Nat.mul_le_mul ih ?_;split
  .rename_i hp;rw [wtL,wtL,Nat.mul_one];exact hT k om hp _
  .exact Nat.le_refl _
theorem Jnn{wt:Row->Nat}{m S:Nat}(h:∀ x,wt x<=S)(k:Row): ∀ rs:List Row,tot (Qo wt m rs k)<=rs.length*S
 | []=>by simp [Qo,tot]
 | x::rs=>by
  have ih:=Jnn (m:=m) h k rs;have e:tot (Qo wt m (x::rs) k)<=wt x+tot (Qo wt m rs k):=by
   unfold Qo;rw [List.filter_cons];split
   .rw [List.map_cons,tot];exact Nat.le_refl _
   .omega
  have:=h x;rw [List.length_cons,Nat.succ_mul];omega
theorem Qwm{pl:Nat->Nat}(hch:ChF n pf pl)(hfn:f<=n)(hlt:∀ v,v<f->Lt [] (R v))(hl:∀ v,v<f->∀ y∈R v,y.length=lastC kf v+1)(hR:∀ v,v<n->(R v).length<=65536):
  ∀ (s v:Nat),v<n->pl v<s->∀ k,TV n f kf pf R ds pl v k<=65536^stV n pf pl v
 | 0,_,_,h,_=>by omega
 | s+1,v,hv,hs,k=>by
  have hW:∀ x,wtL (TV n f kf pf R ds pl) x (chK kf pf v n)<=65536^Qc n (λc=>if pf c=(v:Int) then stV n pf pl c else 0):=λx=>
   Jlr (λc hc hp k=>Qwm hch hfn hlt hl hR s c hc (by have:=(hch c v hc hp).2;omega) k) n (Nat.le_refl _)
  rw [Jnz hch hv,Nat.pow_add,Nat.pow_one];by_cases hf:v<f
  .rw [Jbv hch hfn hf,Jcv,(Jkv (hlt v hf) (hl v hf)).entK,Jbh];exact nL (Jnn hW k _) (nO _ (hR v hv))
  .rw [Jwr hch hv om];refine nL Jrt ?_;exact Nat.mul_pos (by decide) (Nat.pow_pos (by decide))
theorem Jlj(hch:ChF n pf pl)(c:Nat)(hc:f<=c)(k:Row): TV n f kf pf R ds pl c k<=1:=by
 by_cases h:c<n
 .rw [Jwr hch h hc];exact Jrt
 .rw [Qwl h];omega
theorem Xjr(hch:ChF n pf pl)(hfn:f<=n)(hn:n<=32)(hpf:∀ c,c<n->pf c = -1∨∃ p:Nat,pf c=p/\p<n)(hin:∀ u v,u<n->v<n->pl u=pl v->u=v)(hat:∀ i,i<n->∃ v,v<n/\pl v=i)(hpl:∀ v,v<n->pl v<n)(hlt:∀ v,v<f->Lt [] (R v))(hl:∀ v,v<f->∀ y∈R v,y.length=lastC kf v+1)(hR:∀ v,v<n->(R v).length<=65536)(c:Nat)(k:Row): TV n f kf pf R ds pl c k<=4294967296^20:=by
 by_cases h:c<n
 .refine nL (Qwm hch hfn hlt hl hR (pl c+1) c h om k) ?_;have C:=Qcd hch hpf hin hat hpl h;have o:=pw2 16 32 (stV n pf pl c) 20 om;rw [show (65536:Nat)=2^16 by decide,show (4294967296:Nat)=2^32 by decide];exact o
 .rw [Qwl h];omega
end
open Pl Go.Wk
variable {c i s t u v:Nat}
structure ElR(n f m:Nat)(es perm:List Nat)(vars:Nat->List Nat)(rs:Nat->List Row)(kf:Nat->Nat)(pf:Nat->Int)(R:Nat->List Row): Prop where
 pm:PermOk n f perm
 n32:n<=32
 lt:∀ i,i<m->∀ v∈vars i,v<n
 len:∀ i,i<m->∀ r∈rs i,r.length=(vars i).length
 el:es.length=m
 eb:∀ i,i<m->∀ u,(es.getD i 0).testBit u=true↔u∈vars i
 ep:∀ e∈es,e<2^n
 bags:Jwt n es (Xv perm f) kf pf
 rows:∀ v,v<n->Jbz n m vars rs (kf v ||| 2^v) (R v)
section
variable {n f m:Nat} {es perm:List Nat} {vars:Nat->List Nat} {rs:Nat->List Row} {kf:Nat->Nat} {pf:Nat->Int} {R:Nat->List Row} {ds:List Bool}
abbrev plO(perm:List Nat)(f:Nat): Nat->Nat:=plc (Xv perm f)
theorem PermOk.plN(h:PermOk n f perm)(hv:v<n): plO perm f v<n:=by
 have:=(Up h.ond (h.omem.2 hv)).1;rw [h.olen]at this;exact this
theorem PermOk.inj(h:PermOk n f perm)(hu:u<n)(hv:v<n)(e:plO perm f u=plO perm f v): u=v:=by
 rw [<-(Up h.ond (h.omem.2 hu)).2,<-(Up h.ond (h.omem.2 hv)).2];show (Xv perm f).getD (plO perm f u) 0=(Xv perm f).getD (plO perm f v) 0;rw [e]
theorem PermOk.hits(h:PermOk n f perm)(hi:i<n): ∃ v,v<n/\plO perm f v=i:=by
 have o:i<(Xv perm f).length:=by rw [h.olen];exact hi
 exact ⟨(Xv perm f).getD i 0,h.olt (getD_mem' 0 _ o),Jjc h.ond o⟩
theorem PermOk.plPerm(h:PermOk n f perm)(hi:i<perm.length): plO perm f (perm.getD i 0)=i:=by
 have o:i<(Xv perm f).length:=by simp [Xv];omega
 have e:(Xv perm f).getD i 0=perm.getD i 0:=by simp [Xv,List.getD,List.getElem?_append_left hi]
 rw [<-e];exact Jjc h.ond o
theorem PermOk.plFree(h:PermOk n f perm)(hu:u<f): plO perm f u=perm.length+(f-1-u):=by
 have o:perm.length+(f-1-u)<(Xv perm f).length:=by simp [Xv];omega
 have e:(Xv perm f).getD (perm.length+(f-1-u)) 0=u:=by
  simp only [Xv,List.getD];rw [List.getElem?_append_right om,Nat.add_sub_cancel_left,List.getElem?_reverse (by simp;omega),List.length_range,List.getElem?_range om];simp only [Option.getD_some];omega
 have:=Jjc h.ond o;rw [e]at this;exact this
theorem PermOk.plLow(h:PermOk n f perm)(hu:u<f)(hv:f<=v)(hn:v<n): plO perm f v<plO perm f u:=by
 have C:v∈perm:=by
  have:=h.omem.2 hn;rcases List.mem_append.1 this with o|o
  .exact o
  .have:=List.mem_range.1 (List.mem_reverse.1 o);omega
 obtain ⟨i,hi,e⟩:=List.getElem_of_mem C;have o:=h.plPerm hi;rw [Jr 0 _ hi,e]at o;rw [o,h.plFree hu];omega
theorem ElR.inv(h:ElR n f m es perm vars rs kf pf R): NbInv [] (nb0 n es):=Jtg h.ep
theorem ElR.kbit(h:ElR n f m es perm vars rs kf pf R)(hv:v<n)(hu:(kf v).testBit u=true): u<n/\plO perm f v<plO perm f u:=by
 obtain ⟨_,U,_⟩:=h.bags v hv;rw [U]at hu;have o:u<n:=Jyn (nb:=nb0 n es) (ord:=Xv perm f) (N:=n) (λa b C=>(Jxh h.ep C).2.1) hu;obtain ⟨O,J⟩:=Jgg h.inv h.pm.ond (h.pm.omem.2 hv) hu;have G:=(Jgf h.pm.ond (h.pm.omem.2 hv) (h.pm.omem.2 o)).1 O;refine ⟨o,?_⟩;rcases Nat.lt_or_ge (plO perm f v) (plO perm f u) with h6|h6
 .exact h6
 .exact absurd (h.pm.inj o hv (Nat.le_antisymm h6 G)) J
theorem ElR.kmem(h:ElR n f m es perm vars rs kf pf R)(hv:v<n): u∈bk (kf v) 32↔(kf v).testBit u=true:=by
 rw [bk_mem];have:=h.n32;exact ⟨λo=>o.2,λo=>⟨by have:=(h.kbit hv o).1;omega,o⟩⟩
theorem ElR.par(h:ElR n f m es perm vars rs kf pf R)(hv:v<n): (pf v = -1/\∀ u,(kf v).testBit u=false)∨∃ p:Nat,pf v=p/\(kf v).testBit p=true/\∀ u,(kf v).testBit u=true->plO perm f p<=plO perm f u:=by
 obtain ⟨_,G,o⟩:=h.bags v hv;rcases o with ⟨o,C⟩|⟨p,o,C,h5⟩
 .exact .inl ⟨o,λu=>by rw [G];exact C u⟩
 .exact .inr ⟨p,o,by rw [G];exact C,λu J=>h5 u (by rw [<-G];exact J)⟩
theorem ElR.chf(h:ElR n f m es perm vars rs kf pf R): ChF n pf (plO perm f):=λc v C u=>by
 rcases h.par C with ⟨o,_⟩|⟨p,o,h2,_⟩
 .rw [o]at u;omega
 .have e:p=v:=by rw [o]at u;omega
  subst e;exact h.kbit C h2
theorem ElR.sub(h:ElR n f m es perm vars rs kf pf R)(hc:c<n)(hp:pf c=(v:Int))(hu:(kf c).testBit u=true): (kf v ||| 2^v).testBit u=true:=by
 have C:=(h.chf c v hc hp).1;rw [Nat.testBit_or,Nat.testBit_two_pow,Bool.or_eq_true,decide_eq_true_eq];by_cases e:u=v
 .exact .inr e.symm
 .refine .inl ?_;obtain ⟨_,J,_⟩:=h.bags c hc;obtain ⟨_,G,_⟩:=h.bags v C;rcases h.par hc with ⟨O,_⟩|⟨p,O,h2,h3⟩
  .rw [O]at hp;omega
  .have ev:p=v:=by rw [O]at hp;omega
   subst ev;rw [G];refine Qls h.inv h.pm.ond (h.pm.omem.2 hc) (h.pm.omem.2 C) (by rw [<-J];exact h2) (λx U=>?_) (by rw [<-J];exact hu) e;have o:(kf c).testBit x=true:=by rw [J];exact U
   exact (Jgf h.pm.ond (h.pm.omem.2 C) (h.pm.omem.2 (h.kbit hc o).1)).2 (h3 x o)
theorem Qmq(h:∀ u,t.testBit u=true->s.testBit u=true): inS (bk s 32) t=bk t 32:=by
 unfold inS bk;rw [List.filter_filter];refine List.filter_congr λu _=>?_;cases e:t.testBit u with
 | false=>simp
 | true=>simp [h u e]
theorem Jfg(h:∀ u,t.testBit u=true->s.testBit u=true)(z:Row): pmR (Qn (bk s 32) t) (pmR (bk s 32) z)=pmR (bk t 32) z:=by
 have:=Jsm (bk s 32) t z (bk s 32).length (Nat.le_refl _);rw [List.take_length,Qmq h]at this;exact this
theorem ElR.last(h:ElR n f m es perm vars rs kf pf R)(hv:v<f): bk (kf v ||| 2^v) 32=bk (kf v) 32++[v]:=by
 have hn:=h.n32;have J:=h.pm.fn;have o:∀ u,(kf v).testBit u=true->u<v:=λu G=>by
  obtain ⟨C,O⟩:=h.kbit om G;rcases Nat.lt_or_ge u f with h3|h3
  .rw [h.pm.plFree hv,h.pm.plFree h3]at O;omega
  .have:=h.pm.plLow hv h3 C;omega
 have e:∀ k,bk (kf v ||| 2^v) k=bk (kf v) k++if v<k then [v] else []:=by
  intro k;induction k with
  | zero=>rfl
  | succ k ih=>
   rw [Um,Um,ih,Nat.testBit_or,Nat.testBit_two_pow];by_cases e:v=k
   .subst e;rw [if_neg (Nat.lt_irrefl v),if_pos (Nat.lt_succ_self v)];have:(kf v).testBit v=false:=by
     cases hb:(kf v).testBit v with
     | false=>rfl
     | true=>have:=o v hb;omega
    rw [this];simp
   .rw [decide_eq_false e,Bool.or_false];by_cases hb:(kf v).testBit k=true
    .have:=o k hb;rw [if_pos hb,if_neg om,if_neg om,List.append_nil,List.append_nil]
    .rw [if_neg hb,List.append_nil,List.append_nil];by_cases C:v<k
     .rw [if_pos C,if_pos om]
     .rw [if_neg C,if_neg om]
 rw [e,if_pos om]
theorem ElR.lastC(h:ElR n f m es perm vars rs kf pf R){v:Nat}(hv:v<f): lastC kf v=(bk (kf v) 32).length/\(bk (kf v ||| 2^v) 32).length=(bk (kf v) 32).length+1:=by
 unfold Go.Proofs.YtebcagekopgdhaaGreatDoor.lastC;rw [h.last hv];simp
theorem ElR.rlt(h:ElR n f m es perm vars rs kf pf R)(hv:v<f): Lt [] (R v):=(h.rows v (by have:=h.pm.fn;omega)).1
theorem ElR.rl(h:ElR n f m es perm vars rs kf pf R)(hv:v<f): ∀ y∈R v,y.length=Go.Proofs.YtebcagekopgdhaaGreatDoor.lastC kf v+1:=λy o=>by
 obtain ⟨z,_,rfl,_⟩:=((h.rows v (by have:=h.pm.fn;omega)).2.1 y).1 o;rw [Qr,(h.lastC hv).2,(h.lastC hv).1]
theorem ElR.big(h:ElR n f m es perm vars rs kf pf R)(c:Nat)(k:Row): TV n f kf pf R ds (plO perm f) c k<=4294967296^20 :=
 Xjr h.chf h.pm.fn h.n32 (λc G=>by
  rcases h.par G with ⟨C,_⟩|⟨p,C,h2,_⟩
  .exact .inl C
  .exact .inr ⟨p,C,(h.kbit G h2).1⟩) (λu v J o=>h.pm.inj J o) (λi hi=>h.pm.hits hi) (λv o=>h.pm.plN o) (λv o=>h.rlt o) (λv o=>h.rl o) (λv o=>(h.rows v o).2.2) c k
noncomputable def Jzj(n f m:Nat)(perm:List Nat)(vars:Nat->List Nat)(rs:Nat->List Row)(kf:Nat->Nat)(pf:Nat->Int)(R:Nat->List Row)(ds:List Bool): BX V :=
 ⟨V0,n,f,λv=>bk (kf v) 32,pf,plO perm f,(List.range m).map λi=>(vars i,rs i),TV n f kf pf R ds (plO perm f),
  λv k=>entK (Vq (ds.getD v false) (λx=>wtL (TV n f kf pf R ds (plO perm f)) x (chK kf pf v n)) (Go.Proofs.YtebcagekopgdhaaGreatDoor.lastC kf v) (R v)) k⟩
theorem ElR.W(h:ElR n f m es perm vars rs kf pf R){T:Nat->Row->Nat}{v:Nat}(z:Row): ∀ k,k<=n->wtL T (pmR (bk (kf v ||| 2^v) 32) z) (chK kf pf v k)=Jd k λc=>if pf c=(v:Int) then T c (pmR (bk (kf c) 32) z) else 1
 | 0,_=>rfl
 | k+1,hk=>by
  rw [Jbm,Jzr,h.W z k om,Jd];congr 1
  split
  .rename_i hp;rw [wtL,wtL,Nat.mul_one,Jfg λu hu=>h.sub om hp hu]
  .rfl
theorem ElR.bag(h:ElR n f m es perm vars rs kf pf R)(hv:v<n)(z:Row): Kk m vars rs (kf v ||| 2^v) z↔(Jzj n f m perm vars rs kf pf R ds).bag v z:=by
 have key:∀ i j,i<m->j<(vars i).length->((kf v ||| 2^v).testBit ((vars i).getD j 0)=true↔((vars i).getD j 0=v∨(vars i).getD j 0∈bk (kf v) 32)):=λi j hi u=>by
  rw [h.kmem hv,Nat.testBit_or,Nat.testBit_two_pow,Bool.or_eq_true,decide_eq_true_eq];constructor
  .rintro (o|o)
   .exact .inr o
   .exact .inl o.symm
  .rintro (o|o)
   .exact .inr o.symm
   .exact .inl o
 constructor
 .intro J a U;obtain ⟨i,hi,rfl⟩:=List.mem_map.1 U;have hi:=List.mem_range.1 hi;obtain ⟨r,G,O⟩:=J i hi;exact ⟨r,G,λj u C=>O j u ((key i j hi u).2 C)⟩
 .intro J i hi;obtain ⟨r,G,O⟩:=J (vars i,rs i) (List.mem_map.2 ⟨i,List.mem_range.2 hi,rfl⟩);exact ⟨r,G,λj u C=>O j u ((key i j hi u).1 C)⟩
theorem ElR.ok(h:ElR n f m es perm vars rs kf pf R): (Jzj n f m perm vars rs kf pf R ds).Ok:=by
 have a5:=h.pm.fn;have hn:=h.n32;refine ⟨a5,λv G=>h.pm.plN G,λu v O G e=>h.pm.inj O G e,λv G u O=>h.kbit G ((h.kmem G).1 O),λv G=>?_,λv G p hp x hx=>?_,λa ha v a2 a1 u Z=>?_,λu v O aa=>?_,λu v O G o=>h.pm.plLow O G o,λa ha=>?_,λv hf G k=>?_,λv G k=>?_⟩
 .rcases h.par G with ⟨J,U⟩|⟨p,J,U,h3⟩
  .refine .inl ⟨?_,J⟩;refine List.eq_nil_iff_forall_not_mem.2 λu O=>?_;have:=(h.kmem G).1 O;rw [U u]at this;cases this
  .exact .inr ⟨p,J,(h.kmem G).2 U,λu O=>h3 u ((h.kmem G).1 O)⟩
 .have a3:pf v=(p:Int):=hp;have J:=h.sub G a3 ((h.kmem G).1 hx);rw [Nat.testBit_or,Nat.testBit_two_pow,Bool.or_eq_true,decide_eq_true_eq]at J;rcases J with J|J
  .exact .inr ((h.kmem (h.chf v p G a3).1).2 J)
  .exact .inl J.symm
 .obtain ⟨i,hi,rfl⟩:=List.mem_map.1 ha;have hi:=List.mem_range.1 hi;simp only at a2 a1 Z;by_cases e:u=v
  .exact .inl e
  .refine .inr ?_;have o:=h.lt i hi v a2;have a7:=h.lt i hi u Z;have a9:(kf v).testBit u=true:=by
    rw [(h.bags v o).2.1];refine Qlt ?_ e ((Jgf h.pm.ond (h.pm.omem.2 o) (h.pm.omem.2 a7)).2 (a1 u Z));simp only [nb0,Bool.and_eq_true,decide_eq_true_eq,bne_iff_ne,List.any_eq_true];exact ⟨⟨o,e⟩,es.getD i 0,getD_mem' 0 es (by rw [h.el];exact hi),(h.eb i hi v).2 a2,(h.eb i hi u).2 Z⟩
   exact (h.kmem o).2 a9
 .have a8:u<f:=O;show plO perm f u<plO perm f v;rw [h.pm.plFree a8,h.pm.plFree om];omega
 .obtain ⟨i,hi,rfl⟩:=List.mem_map.1 ha;have hi:=List.mem_range.1 hi;exact ⟨h.lt i hi,h.len i hi⟩
 .have a6:f<=v:=hf;have C:v<n:=G;refine ⟨Jlj h.chf v a6 k,?_⟩;show 0<TV n f kf pf R ds (plO perm f) v k↔_;rw [Jwr h.chf C a6,redT_pos];constructor
  .rintro ⟨x,hx,J,U⟩;obtain ⟨z,hz,rfl,hb⟩:=((h.rows v C).2.1 x).1 hx;refine ⟨z,hz,(h.bag C z).1 hb,?_,?_⟩
   .rw [<-U];exact (Jfg (λu O=>by rw [Nat.testBit_or,O];rfl) z).symm
   .rw [h.W z n (Nat.le_refl _)]at J;exact J
  .rintro ⟨z,hz,hb,U,J⟩;refine ⟨pmR (bk (kf v ||| 2^v) 32) z,((h.rows v C).2.1 _).2 ⟨z,hz,rfl,(h.bag C z).2 hb⟩,?_,?_⟩
   .rw [h.W z n (Nat.le_refl _)];exact J
   .rw [<-U];exact Jfg (λu O=>by rw [Nat.testBit_or,O];rfl) z
 .have C:v<f:=G;have o:v<n:=om
  have hg:=(Jkv (d:=ds.getD v false) (wt:=λx=>wtL (TV n f kf pf R ds (plO perm f)) x (chK kf pf v n)) (h.rlt C) (h.rl C)).entK k;refine ⟨?_,λp=>?_⟩
  .show TV n f kf pf R ds (plO perm f) v k=_;rw [Jbv h.chf a5 C,Jcv];rfl
  .show p∈entK _ k↔_;rw [hg,Qqz,entL_mem];have hl:=h.last C;have a4:=(h.lastC C).1;have e1:∀ z:Row,(pmR (bk (kf v ||| 2^v) 32) z).take (Go.Proofs.YtebcagekopgdhaaGreatDoor.lastC kf v)=pmR (bk (kf v) 32) z:=λz=>by
    rw [hl,a4];unfold pmR;rw [List.map_append,List.take_left' (by simp)]
   have e2:∀ z:Row,(pmR (bk (kf v ||| 2^v) 32) z).getD (Go.Proofs.YtebcagekopgdhaaGreatDoor.lastC kf v) V0=z.getD v V0:=λz=>by
    rw [hl,a4];unfold pmR;rw [List.map_append];simp only [List.getD];rw [List.getElem?_append_right (by simp)];simp
   constructor
   .rintro ⟨x,hx,J,U,h3,h4⟩;obtain ⟨z,hz,rfl,hb⟩:=((h.rows v o).2.1 x).1 hx;refine ⟨z,hz,(h.bag o z).1 hb,?_,?_,?_,h4⟩
    .rw [<-J,e1];rfl
    .rw [<-U,e2];rfl
    .rw [<-h3,h.W z n (Nat.le_refl _)];rfl
   .rintro ⟨z,hz,hb,J,U,h3,h4⟩;refine ⟨pmR (bk (kf v ||| 2^v) 32) z,((h.rows v o).2.1 _).2 ⟨z,hz,rfl,(h.bag o z).2 hb⟩,?_,?_,?_,h4⟩
    .rw [e1,<-J];rfl
    .rw [e2,<-U];rfl
    .rw [h.W z n (Nat.le_refl _),h3];rfl
theorem ElR.srt(h:ElR n f m es perm vars rs kf pf R): (Jzj n f m perm vars rs kf pf R ds).ix.Srt ds:=by
 refine ⟨rfl,λv u k=>?_⟩;have o:v<f:=u;show Iv _ (entK _ k);rw [(Jkv (h.rlt o) (h.rl o)).entK];exact Qpk (Qnw (h.rlt o) (h.rl o) k)
end
open Go.RowKit Pl Go.Wk
attribute [local irreducible] WC WL QX WD WDB WP WN WG
def Zu(n:Nat)(pf:Nat->Int)(T:Nat->Row->Nat)(ats:List Atm): Nat:=if ats.any (λa=>a.rows.isEmpty) then 0 else Jd n λv=>if pf v = -1 then T v [] else 1
theorem Qfm{n k:Nat}{g:Nat->Nat}(hk:k<n)(h:g k=0): Jd n g=0:=by
 rcases Nat.eq_zero_or_pos (Jd n g) with h'|h'
 .exact h'
 .have:=prodR_pos.1 h' k hk;omega
theorem Iu{S:Nat}(hS:1<=S): ∀ {n:Nat} {g:Nat->Nat},(∀ c,c<n->g c<=S)->Jd n g<=S^n
 | 0,_,_=>Nat.le_refl _
 | n+1,g,h=>by
  rw [Jd,Nat.pow_succ];exact Nat.mul_le_mul (Iu hS λc hc=>h c om) (h n om)
theorem Qyw{B0 n f b cb cv ct:Nat}{kf:Nat->Nat}{pf:Nat->Int}{R:Nat->List Row}{vR Dv Pv Av Kv:Value}{BA VA TA:Option Addr}{wF w:World}{va ta:List Value}{T:Nat->Row->Nat}{ats:List Atm}{AR:Nat->Prop}(hF:FixW B0 n f kf pf R vR BA wF)(hW:BldW wF b n (bCs n f Dv Pv Av BA cb vR VA cv TA ct Kv) VA cv TA ct w va ta)(hAv:GV 3 AtG wF Av ats)(hpf:∀ c,c<n->pf c = -1∨∃ p:Nat,pf c=p)(hdv:∀ c,c<n->f<=c->DnV AR (T c) w (va.getD c (.map none)))(hdt:∀ c,c<n->c<f->DnT AR (T c) w (ta.getD c (.map none)))(hroot:∀ c,c<n->pf c = -1->f<=c->∀ k,0<T c k->k=[])(hT1:∀ c,f<=c->∀ k,T c k<=1)(hTb:∀ c k,T c k<=4294967296^20):
  Ret Tryz.prog 85 [.pointer (some ⟨b,0,none⟩)] w λu w'=>NatV w' u (Zu n pf T ats)/\Fresh w u/\Ext w w':=by
 have af:Fresh w (.slice none 0 0):=λad m c e=>by cases e
 obtain ⟨a7,hB,b2,b5⟩:=hW;have bp:=hF.n32;obtain ⟨AA,ac,c1,rfl,c0,bz,bm,bn⟩:=hAv.parts;refine Jz Tryz.func85 Tryz.ntmps85 rfl kr rfl ?_;refine ρ ?_;refine ld (hB.at (i:=4) rfl) ?_;refine ρ ?_;refine Qh (fun (i:Nat)=>[(0,.pointer (some ⟨b,0,none⟩)),(2,.slice none 0 0),(12,.slice AA ats.length ac),(13,.int .i64 (ats.length:Int)),(14,.int .i64 (i:Int))])
  (λi w'=>i<=ats.length/\Ext w w'/\∀ j (hj:j<ats.length),j<i->ats[j].rows≠[]) (λi=>ats.length-i) 0 sB ⟨Nat.zero_le _,Ext.refl _,λj hj h=>om⟩ ?_
 rintro i w1 ⟨hi,a1,a4⟩;refine ρ ?_;refine ci (λh=>?_) (λh=>?_)
 .have li:i<ats.length:=by have:=oT h;omega
  clear h;have U:=a7.trans a1;obtain ⟨ce,bw,⟨⟨t1,t2,t3⟩,rfl,b9⟩,am⟩:=bn i li;obtain ⟨⟨PA,pc,bd,bs,br,bq⟩,bc,aa⟩:=id b9;simp only at bd bc;obtain ⟨a5,PG,a6,bo,ba,_⟩:=id aa;simp only at ba bo;subst bd;subst bc;subst ba;have ae:∀ j u,([.slice PA ats[i].vars.length pc,.int .i64 (ats[i].ar:Int),.slice PG a5.length a6]:List Value)[j]?=some u->w1.cell? ((adr AA (i*3)).add j)=some u:=λj u hu=>Ul U (am j u hu);refine ρ ?_;refine ixq 3 i (bm.ext U) li ?_;refine ρ ?_;refine lds (cs:=[.slice PA ats[i].vars.length pc,.int .i64 (ats[i].ar:Int),.slice PG a5.length a6]) ae ?_;refine ρ ?_;refine alc Vu ?_;intro w2 bb a9 an ao;refine ρ ?_;refine stb (cs':=[.slice PA ats[i].vars.length pc,.int .i64 (ats[i].ar:Int),.slice PG a5.length a6]) ao ?_ (Kl rfl);intro w3 b7 bv O;have Z:Ext w1 w3:=O w1 a9 an;refine ρ ?_;refine lds (cs:=[.int .i64 (ats[i].ar:Int),.slice PG a5.length a6]) (λj u hu=>b7.sub (i:=1) (j:=j) (by rw [Nat.add_comm];exact hu)) ?_
  refine ρ ?_;refine cl (Jkc (b9.ext (U.trans Z)).rel) ?_;rintro u w4 ⟨rfl,a8⟩;refine ρ ?_;refine ci (λh=>?_) (λh=>?_)
  .have h0:ats[i].rows.length=0:=by have:=Xd h;omega
   refine ρ ?_;refine Jq ⟨?_,af,(a1.trans Z).trans a8⟩;have e:Zu n pf T ats=0:=by
    unfold Zu;rw [if_pos];exact List.any_eq_true.2 ⟨ats[i],List.getElem_mem li,by rw [List.isEmpty_iff];exact List.eq_nil_of_length_eq_zero h0⟩
   rw [e];exact NatV.nil _
  .have h0:ats[i].rows.length≠0:=λe=>by have:=Xf h;omega
   refine ρ ?_;refine Qv (i+1) sO ⟨li,(a1.trans Z).trans a8,λj hj bt=>?_⟩ om;by_cases e:j=i
   .subst e;intro e2;rw [e2]at h0;exact h0 rfl
   .exact a4 j hj om
 have bi:i=ats.length:=by have:=oF h;omega
 clear h;have ah:ats.any (λa=>a.rows.isEmpty)=false:=by
  rw [List.any_eq_false];intro a ha he;obtain ⟨j,hj,rfl⟩:=List.getElem_of_mem ha;exact a4 j hj om (List.isEmpty_iff.1 he)
 have ai:Zu n pf T ats=Jd n λv=>if pf v = -1 then T v [] else 1:=by unfold Zu;rw [ah];rfl
 rw [ai];clear ai ah a4 bi;obtain ⟨g,hg⟩:∃ g:Nat->Nat,g=λv=>if pf v = -1 then T v [] else 1:=⟨_,rfl⟩
 rw [<-hg];have ax:∀ v,g v<=4294967296^20:=λv=>by
  rw [hg];simp only;split
  .exact hTb _ _
  .exact Nat.pow_pos (by decide)
 have bg:∀ k,k<=n->Nb (Jd k g):=λk hk=>Nb.pow (k:=k) (Iu (Nat.pow_pos (by decide)) λc _=>ax c) om;have bj:∀ v,Nb (g v):=λv=>Nb.pow (k:=1) (by rw [Nat.pow_one];exact ax v) om;refine ρ ?_;refine cl (Jjh 1 (by decide) _) ?_;rintro vp w2 ⟨aw,b1,a9⟩;have a2:=a1.trans a9;refine ρ ?_;refine ld ((hB.ext a2).at (i:=5) rfl) ?_;refine ρ ?_;refine Je (fun (k:Nat) (vp:Value)=>[(0,.pointer (some ⟨b,0,none⟩)),(2,.slice none 0 0),(5,vp),(27,.slice BA n cb),(28,.int .i64 (n:Int)),(29,.int .i64 (k:Int))])
  (λk vp w'=>k<=n/\Ext w w'/\NatV w' vp (Jd k g)/\Fresh w vp) (λk _=>n-k) 0 vp sB ⟨Nat.zero_le _,a2,aw,λad m c e=>nL a1.size (b1 ad m c e)⟩ ?_
 clear b1 aw a2 a9 vp w2;rintro k vp w3 ⟨hk,O,a3,ak⟩;refine ρ ?_;refine ci (λh=>?_) (λh=>?_)
 .have lk:k<n:=by have:=oT h;omega
  clear h;have ab:∀ j u,(Qd kf pf k)[j]?=some u->w3.cell? ((adr BA (k*3)).add j)=some u:=λj u hu=>by
   have hj:j<3:=by
    rcases Nat.lt_or_ge j 3 with h'|h'
    .exact h'
    .rw [List.getElem?_eq_none (by simp [Qd];omega)]at hu;cases hu
   rw [Xh];exact (hF.bags.ext (a7.trans O)).cell ((Jjr (sz:=3) (λ_ _=>rfl) lk hj).trans hu)
  refine ρ ?_;refine ixq 3 k (hF.bags.ext (a7.trans O)) lk ?_;refine ρ ?_;refine lds (cs:=Qd kf pf k) ab ?_;refine ρ ?_;refine alc Jzq ?_;intro w4 bb a8 an ao;refine ρ ?_;refine stb (cs':=Qd kf pf k) ao ?_ Jxc;intro w5 b6 bu be;have G:Ext w3 w5:=be w3 a8 an;have C:=O.trans G;refine ρ ?_;refine ld (b6.at (i:=2) rfl) ?_;refine ρ ?_;refine ci (λh=>?_) (λh=>?_)
  .have a4:pf k≠-1:=by have:=oT h;omega
   refine ρ ?_;refine Jl (k+1) vp sO ⟨lk,C,?_,ak⟩ om;have e:Jd (k+1) g=Jd k g:=by rw [Jd,hg];simp only;rw [if_neg a4,Nat.mul_one]
   rw [e];exact a3.ext G
  .have hp:pf k = -1:=by
    have:=oF h;rcases hpf k lk with h'|⟨p,h'⟩
    .exact h'
    .omega
   have ap:g k=T k []:=by rw [hg];simp only;rw [if_pos hp]
   have b8:=hB.ext C;refine ρ ?_;refine ld (b8.at (i:=1) rfl) ?_;refine ρ ?_;refine ci (λh=>?_) (λh=>?_)
   .have lf:k<f:=by have:=oT h;omega
    obtain ⟨mb,m,fm,e1,e2,⟨e3,e4⟩,e5⟩:=hdt k lk lf;have aj:ta[k]?=some (.map (some mb)):=by
     rw [<-e1];have hl:=b5.1;simp [List.getD,List.getElem?_eq_getElem (show k<ta.length by omega)]
    have aq:Ext w5 w5.drew:=(Ext.refl w5).drew;have o:=C.trans aq;have b4:=(Rd.own b5).ext o;have ag:FitR []:=⟨by simp,λv hv=>by cases hv⟩;refine ρ ?_;refine dr [(0,0),(0,1),(0,2),(0,3),(0,4),(0,5),(0,6),(0,7),(1,8),(0,9),(1,10),(0,11)] kr ?_;refine ρd ?_;refine dld ((hB.ext o).at (i:=8) rfl) ?_;refine ρd ?_;refine dix k b4 lk ?_;refine ρd ?_;refine dld (b4.cell aj) ?_;refine ρd ?_;refine dcl (Jxs (r:=[]) (A:=none) (c:=0) (hF.tb.ext (a7.trans o)) Rd.nil (λu hu=>by cases hu) (by have:=ag.len;omega) (by simp)) ?_;rintro un w6 ⟨rfl,J⟩;refine ⟨J,?_⟩;refine ρd ?_;refine dmlk KS (e3.ext (o.trans J)) zNat (Gj ag) ?_;have av:NatV w6 ((fm (.string (idn []))).getD (.slice none 0 0)) (g k):=by
     rw [ap];rcases e5 []with ⟨h6,h7⟩|⟨y,h6,h7,h8⟩
     .rw [h6,h7];exact NatV.nil _
     .rw [h6];exact h8.1.ext (o.trans J)
    refine ρd ?_;refine dcl (Jxj (a3.ext ((G.trans aq).trans J)) av (bg k hk).len (bj k).len) ?_;rintro vr w7 ⟨bf,ay,au⟩;refine ⟨au,?_⟩;refine ρd ?_;refine ρ ?_;exact Jl (k+1) vr sO ⟨lk,(o.trans J).trans au,bf,λad m c e=>nL (o.trans J).size (ay ad m c e)⟩ om
   .have lf:f<=k:=by have:=oF h;omega
    obtain ⟨mb,m,fm,e1,e2,⟨e3,e4⟩,e5,e6⟩:=hdv k lk lf;have aj:va[k]?=some (.map (some mb)):=by
     rw [<-e1];have hl:=b2.1;simp [List.getD,List.getElem?_eq_getElem (show k<va.length by omega)]
    have b3:=(Rd.own b2).ext C;refine ρ ?_;refine ld (b8.at (i:=7) rfl) ?_;refine ρ ?_;refine ix k b3 lk ?_;refine ρ ?_;refine ld (b3.cell aj) ?_;refine ρ ?_;refine mln KS (e3.ext C) ?_;intro q hq;refine ρ ?_;refine ci (λh=>?_) (λh=>?_)
    .have h0:q=0:=by have:=Xd h;omega
     have h1:=hq.1 h0 (.string (idn []));rw [e5]at h1;have h2:T k []=0:=by
      rcases Nat.eq_zero_or_pos (T k []) with h'|h'
      .exact h'
      .rw [if_pos h']at h1;cases h1
     refine ρ ?_;refine Jq ⟨?_,af,C⟩;rw [Qfm lk (by rw [ap,h2])];exact NatV.nil _
    .have h0:¬ q=0:=λe=>by have:=Xf h;omega
     have h1:0<T k []:=by
      refine Classical.byContradiction λh'=>h0 (hq.2 λkl=>?_);cases hfk:fm kl with
      | none=>rfl
      | some x=>
       obtain ⟨r,rfl⟩:=e6 kl (by rw [hfk];simp);rw [e5]at hfk;split at hfk
       .rename_i hr;rw [hroot k lk hp lf r hr]at hr;exact absurd hr h'
       .cases hfk
     refine ρ ?_;refine Jl (k+1) vp sO ⟨lk,C,?_,ak⟩ om;have h2:=hT1 k lf [];have e:Jd (k+1) g=Jd k g:=by rw [Jd,ap,show T k []=1 by omega,Nat.mul_one]
     rw [e];exact a3.ext G
 have bh:k=n:=by have:=oF h;omega
 rw [bh]at a3;refine ρ ?_;exact Jq ⟨a3,ak,O⟩
open Go.RowKit Pl Go.Wk
variable {d:Bool}{bs:List BkT}{bvs cs:List Value}{M N:Nat->Prop}{A BA DA KA:Option Addr}{bv tv x:Value}{w:World}
theorem DnB.old{N N':Nat->Prop}{d:Bool}{w:World}{x:Value}{bs:List BkT}(h:DnB N d w x bs)(hs:∀ k,N' k->N k∨w.heap.size<=k): DnB N' d w x bs:=by
 obtain ⟨ps,A,c,h1,h2,h3,Z,G,U,C⟩:=h;refine ⟨ps,A,c,h1,h2,h3,Z,G,λh0 ad e O=>?_,λp o=>⟨(C p o).1,(C p o).2.old hs⟩⟩;rcases hs _ O with h'|h'
 .exact U h0 ad e h'
 .have J:0<(Qj ps).length:=by rw [Jgw λp o=>(C p o).1];omega
  obtain ⟨a1,u,hb,_⟩:=G.2 J;rw [e]at u;injection u with u;subst u;omega
theorem DnB.ext{N:Nat->Prop}{d:Bool}{w w':World}{x:Value}{bs:List BkT}(h:DnB N d w x bs)(hx:Ext w w'): DnB N d w' x bs:=h.gr (GrN.ext hx)
theorem DnB.nil(N:Nat->Prop)(d:Bool)(w:World): DnB N d w (.slice none 0 0) []:=⟨[],none,0,rfl,rfl,Nat.le_refl _,by simp,Rd.nil,λh=>absurd h (by simp),λp o=>by cases o⟩
theorem Qsd(w:World): (Instr.buildSlice 25 0 #[]).run Tryz.prog w=.ok (.slice (some ⟨w.heap.size,0,none⟩) 0 0) (w.alloc (.cells ([]:List Value).toArray 187)):=kr
theorem Qzg{n c:Nat}(hr:Rd w 3 A n cs)(h1:∀ u∈cs,u.oneCell'=true)(hb:n*24<=140737488355328):
  Ret Tryz.prog 138 [.slice A n c] w λv w'=>(∃ A' c',v=.slice A' n c'/\n<=c'/\Rd w' 3 A' n cs/\∀ ad,A'=some ad->w.heap.size<=ad.block)/\Ext w w':=by
 refine Jz Tryz.func138 Tryz.ntmps138 rfl kr rfl ?_;refine ρ ?_;refine Ir ?_;refine ρ ?_;refine ci (λh=>?_) (λh=>?_)
 .have hA:A=none:=by simpa using h
  subst hA;have hn:n=0:=by
   rcases Nat.eq_zero_or_pos n with h0|h0
   .exact h0
   .obtain ⟨ad,h2,_⟩:=hr.isome h0 om;cases h2
  subst hn;refine ρ ?_;exact Jq ⟨⟨none,0,rfl,Nat.le_refl _,hr,λad e=>by cases e⟩,Ext.refl w⟩
 .refine ρ ?_;refine bsl Qsd ?_;intro w1 b C U O;refine ρ ?_;refine apo C EBg (O.own (n:=0) U rfl (Nat.zero_le _)) (hr.ext C) h1 (by unfold maxLen;omega) om ?_;intro v2 w2 o J _ _;obtain ⟨A2,c2,rfl,G,Z⟩:=Jy o;refine ρ ?_;rw [Nat.zero_add]at o G ⊢;exact Jq ⟨⟨A2,c2,rfl,G,Rd.own o,λad e=>by subst e;exact (Z ad.block rfl).1⟩,J⟩
theorem Qqm(n:Nat)(kf:Nat->Nat)(pf:Nat->Int): ∀ u∈Ql n (Qd kf pf),u.oneCell'=true:=λu o=>by
 obtain ⟨i,_,h⟩:=List.mem_flatMap.1 o;exact Jxc u h
theorem Qpp(h:DnB N d w x bs)(hN:∀ k,N k->k<w.heap.size):
  Ret Tryz.prog 116 [x] w λu w'=>DnB N d w' u bs/\Ext w w':=by
 obtain ⟨ps,A,c,rfl,rfl,hc,hl,hR,hA,am⟩:=h;refine Jz Tryz.func116 Tryz.ntmps116 rfl kr rfl ?_;refine ρ ?_;refine Je (fun (i:Nat) (vl:Value)=>[(3,vl),(6,.slice A ps.length c),(7,.int .i64 (ps.length:Int)),(8,.int .i64 (i:Int))])
  (λi vl w'=>i<=ps.length/\Ext w w'/\∃ o:List (List Value×BkT),w'.ownsRow w.heap.size 140 3 vl o.length (Qj o)/\o.map (·.2)=(ps.map (·.2)).take i/\∀ q∈o,q.1.length=3/\BkE d (λk=>N k∨vl.ownBlock=some k) w' q.1 q.2) (λi _=>ps.length-i) 0 (.slice none 0 0) sB
  ⟨Nat.zero_le _,Ext.refl _,[],Xa _ _ _ _,rfl,λq hq=>by cases hq⟩ ?_
 rintro i vl w1 ⟨hi,a2,o,ae,a7,a6⟩;obtain ⟨LA,lc,rfl,ay,O⟩:=Jy ae;have bc:o.length=i:=by have:=congrArg List.length a7;rw [List.length_map,List.length_take,List.length_map]at this;omega
 refine ρ ?_;refine ci (λh=>?_) (λh=>?_)
 .have li:i<ps.length:=by have:=oT h;omega
  clear h;obtain ⟨z,hz⟩:∃ z,z=ps[i]:=⟨_,rfl⟩;have ar:z∈ps:=by rw [hz];exact List.getElem_mem li
  obtain ⟨ba,ai⟩:=am z ar;have a4:∀ j u,z.1[j]?=some u->w1.cell? ((adr A (i*3)).add j)=some u:=λj u hu=>by
   have hj:j<3:=by have:=(List.getElem?_eq_some_iff.1 hu).1;omega
   rw [Xh];refine (hR.ext a2).cell ?_;rw [Ku (p:=z) (λp hp=>(am p hp).1) (by rw [hz];exact List.getElem?_eq_getElem li) hj];exact hu
  obtain ⟨kv,zq,ap,ab,aa⟩:=id ai;obtain ⟨zp,rfl⟩:=aa.ptr;obtain ⟨zc,zk,zt⟩:=z;simp only at ap ab aa a4 ai;subst ap;obtain ⟨aq,ag,rfl,b8,b7,b9,_⟩:=id ab;refine ρ ?_;refine ixq 3 i (hR.ext a2) li ?_;refine ρ ?_;refine lds (cs:=[.slice aq zk.length ag,.bool d,.pointer zp]) a4 ?_;refine ρ ?_;refine alc Jcd ?_;intro w2 bb av b2 b3;refine ρ ?_;refine stb (cs':=[.slice aq zk.length ag,.bool d,.pointer zp]) b3 ?_ (Jyc rfl);intro w3 ao bd au;have a1:Ext w1 w3:=au w1 av b2;have a5:Ext w3 w3.drew:=(Ext.refl w3).drew;have a8:=a2.trans (a1.trans a5);have a9:=ao.ext a5;have an:¬ (Value.slice LA o.length lc).ownBlock=some bb:=λe=>by have:=(O bb e).2;omega
  refine ρ ?_;refine drN (λk=>(Value.slice LA o.length lc).ownBlock=some k) 10 [(0,0),(0,1),(0,2),(0,4),(0,5),(1,3),(0,6),(1,7),(1,8),(0,9)] kr ?_;refine ρn ?_;refine nld (Jp (a9.at (i:=0) rfl) an) ?_;refine ρn ?_;refine Qe (cs:=[.bool d,.pointer zp]) (λw' hg j u hu=>Jp (a9.sub (i:=1) (j:=j) (by rw [Nat.add_comm];exact hu)) (by rw [Ya];exact an) w' hg) ?_;refine ρn ?_;refine nop ?_;refine cl (Jzf (r:=zk) (ab.v.ext a8) (λk=>N k∨(Value.slice LA o.length lc).ownBlock=some k) λk U=>?_) ?_
  .rcases U with Z|Z
   .exact nM (hN k Z) a8.size
   .exact nM (O k Z).2 (a1.trans a5).size
  rintro kv w4 ⟨ak,aj⟩;obtain ⟨G,C,rfl,_⟩:=id ak;refine ρ ?_;refine Jb (GrN.ext aj) ?_;refine ρn ?_;refine Jjg (Qkb _ G _ C d zp rfl) ?_;refine ρn ?_;refine nop ?_;refine bsl (Qzr _ G _ C d zp rfl) ?_;intro w5 b5 ac be b4;refine ρ ?_;refine Jb (GrN.ext ac) ?_;refine ρn ?_;refine nop ?_;have J:Ext w1 w5:=((a1.trans a5).trans aj).trans ac;have a3:=a2.trans J;refine apb (m':=1) (news:=[.slice G zk.length C,.bool d,.pointer zp]) EBk (Jk ae J) (b4.rd (n:=1) rfl) (Jyc rfl) (by unfold maxLen;omega) om a3.size ?_;intro v6 w6 aw af ax;have b6:∀ g,(Value.slice LA o.length lc).ownBlock=some g->g<w5.heap.size:=λg eg=>nM (O g eg).2 J.size;refine ρ ?_;refine Jb (GrN.by af λg eg=>eg) ?_;refine ρn ?_;refine ρ ?_;have key:∀ p:List Value×BkT,BkE d (λk=>N k∨(Value.slice LA o.length lc).ownBlock=some k) w5 p.1 p.2->BkE d (λk=>N k∨v6.ownBlock=some k) w6 p.1 p.2:=λp h1=>by
   have h2:BkE d (λk=>(N k∨(Value.slice LA o.length lc).ownBlock=some k)∨v6.ownBlock=some k) w5 p.1 p.2:=h1.old λk U=>by
    rcases U with Z|Z
    .exact .inl Z
    .rcases ax k Z with h''|h''
     .exact .inl (.inr h'')
     .exact .inr h''
   exact (h2.gr (GrN.by af λk U=>.inl (.inr U))).old λk U=>.inl (U.elim (λZ=>.inl (.inl Z)) .inr)
  have ah:TrV (λk=>N k∨(Value.slice LA o.length lc).ownBlock=some k) w5 zt (.pointer zp):=by
   refine TrV.ext (TrV.old ?_ aa) a3;intro k U;rcases U with Z|Z
   .exact .inl Z
   .exact .inr (O k Z).1
  refine Jl (i+1) v6 sO ⟨li,Qf a3 af (λg eg=>(O g eg).1),o++[([.slice G zk.length C,.bool d,.pointer zp],(zk,zt))],?_,?_,λq hq=>?_⟩ om
  .rw [List.length_append,List.length_singleton];have e:Qj (o++[([.slice G zk.length C,.bool d,.pointer zp],(zk,zt))])=Qj o++[.slice G zk.length C,.bool d,.pointer zp]:=by simp [Qj]
   rw [e];exact aw
  .rw [List.map_append,a7,List.take_succ_eq_append_getElem (by rw [List.length_map];exact li),List.getElem_map,<-hz];rfl
  .rcases List.mem_append.1 hq with h1|h1
   .exact ⟨(a6 q h1).1,key q ((a6 q h1).2.ext J)⟩
   .rw [List.mem_singleton.1 h1];exact ⟨rfl,key ([.slice G zk.length C,.bool d,.pointer zp],(zk,zt)) ⟨_,_,rfl,ak.ext ac,ah⟩⟩
 have b1:i=ps.length:=by have:=oF h;omega
 rw [b1,List.take_of_length_le (by rw [List.length_map];exact Nat.le_refl _)]at a7;refine ρ ?_;refine Jq ⟨⟨o,LA,lc,a7.symm,rfl,ay,om,Rd.own ae,λh0 ad e U=>?_,λp hp=>⟨(a6 p hp).1,?_⟩⟩,a2⟩
 .have:=(O ad.block (by rw [e];simp [Value.ownBlock])).1;have:=hN _ U;omega
 .exact (a6 p hp).2.old λk U=>.inl (.inl U)
def Zw(bs:List BkT)(k:Row): Option Nat:=bs.findIdx? λb=>decide (b.1=k)
theorem Qms(bs:List BkT)(b:BkT)(k:Row)(h:b.1 ∉ bs.map (·.1)): Zw (bs++[b]) k=if b.1=k then some bs.length else Zw bs k:=by
 unfold Zw;rw [List.findIdx?_append];by_cases e:b.1=k
 .rw [if_pos e];have:bs.findIdx? (λc=>decide (c.1=k))=none:=by
   rw [List.findIdx?_eq_none_iff];intro c o;exact dF λu=>h (by rw [e];exact List.mem_map.2 ⟨c,o,u⟩)
  rw [this];simp [List.findIdx?_cons,e]
 .rw [if_neg e];cases hf:bs.findIdx? (λc=>decide (c.1=k)) with
  | some c=>simp
  | none=>simp [List.findIdx?_cons,e]
structure VarQ(N:Nat->Prop)(d:Bool)(w:World)(bv pv:Value)(bs:List BkT): Prop where
 bks:DnB N d w bv bs
 plc:∃ mb m fm,pv=.map (some mb)/\m<=1000000/\(MapS Tryz.prog 9 w mb m fm/\¬ N mb)/\∀ k:Row,fm (.string (idn k))=(Zw bs k).map λi=>.int .i64 (i:Int)
theorem VarQ.gr{N:Nat->Prop}{d:Bool}{w w':World}{bv pv:Value}{bs:List BkT}(h:VarQ N d w bv pv bs)(hg:GrN N w w'): VarQ N d w' bv pv bs:=by
 refine ⟨h.bks.gr hg,?_⟩;obtain ⟨u,m,fm,O,J,⟨G,o⟩,C⟩:=h.plc;exact ⟨u,m,fm,O,J,⟨G.gr hg o,o⟩,C⟩
theorem VarQ.none{pv:Value}(h:VarQ N d w bv pv bs): VarQ (λ_=>False) d w bv pv bs:=by
 refine ⟨h.bks.old λk u=>u.elim,?_⟩;obtain ⟨o,m,fm,O,J,⟨G,U⟩,C⟩:=h.plc;exact ⟨o,m,fm,O,J,⟨G,λe=>e⟩,C⟩
structure IxV(w:World)(x:Value)(f:Nat)(ds:List Bool)(kf:Nat->Nat)(pf:Nat->Int)(BB:Nat->List BkT)(tot:Nat): Prop where
 ex:∃ DA dc BA cb KA ck PA cp tv kvs pvs,x=.agg #[.slice DA f dc,.slice BA f cb,.slice KA f ck,.slice PA f cp,tv]/\f<=dc/\f<=cb/\RdB w DA ds/\Rd w 3 BA f (Ql f (Qd kf pf))/\Rd w 1 KA f kvs/\Rd w 1 PA f pvs/\NatV w tv tot /\
  ∀ v,v<f->VarQ (λ_=>False) (ds.getD v false) w (kvs.getD v (.slice none 0 0)) (pvs.getD v (.map none)) (BB v)
 dl:ds.length=f
 f32:f<=32
theorem IxV.ext{w w':World}{x:Value}{f:Nat}{ds:List Bool}{kf:Nat->Nat}{pf:Nat->Int}{BB:Nat->List BkT}{tot:Nat}(h:IxV w x f ds kf pf BB tot)(hx:Ext w w'): IxV w' x f ds kf pf BB tot:=by
 obtain ⟨DA,dc,BA,cb,KA,ck,PA,cp,C,u,o,h1,h2,h3,h4,h5,Z,U,O,J⟩:=h.ex;exact ⟨⟨DA,dc,BA,cb,KA,ck,PA,cp,C,u,o,h1,h2,h3,Rd.ext h4 hx,h5.ext hx,Z.ext hx,U.ext hx,O.ext hx,λv G=>(J v G).gr (GrN.ext hx)⟩,h.dl,h.f32⟩
theorem Kw: Qp Tryz.prog 31=some (.agg #[.slice none 0 0,.slice none 0 0,.slice none 0 0,.slice none 0 0,.slice none 0 0]):=kr
theorem Qsw(A B C:Option Addr)(a b c a' b' c':Nat)(w:World): (Instr.build 31 #[(0,.slice A a a'),(1,.slice B b b'),(4,.slice C c c')]).run Tryz.prog w=.ok (.agg #[.slice A a a',.slice B b b',.slice none 0 0,.slice none 0 0,.slice C c c']) w:=kr
theorem Jsw{B C D E:Option Addr}{a b c d e a' b' c' d' e':Nat}: ∀ u∈[Value.slice A a a',.slice B b b',.slice C c c',.slice D d d',.slice E e e'],u.oneCell'=true:=λu o=>by
 simp only [List.mem_cons,List.not_mem_nil,or_false]at o;rcases o with rfl|rfl|rfl|rfl|rfl<;>rfl
theorem EBks: ElT Tryz.prog 26 134 1 24 (.slice none 0 0):=⟨Tryz.underlying26,info_parts kr,rfl,by decide⟩
theorem EPls: ElT Tryz.prog 27 219 1 8 (.map none):=⟨Tryz.underlying27,info_parts kr,rfl,by decide⟩
theorem Yn(z:Value)(h:z.cells = #[z])(n:Nat): (madeCells z.cells (n*1)).toList=List.replicate n z:=by rw [Nat.mul_one,h];exact Yp _ _
theorem Qtz{B0 f dc cb ck tot:Nat}{ds:List Bool}{kf:Nat->Nat}{pf:Nat->Int}{BB:Nat->List BkT}(hTB:TB B0 w)(hdl:ds.length=f)(f32:f<=32)(hD:RdB w DA ds)(hBg:Rd w 3 BA f (Ql f (Qd kf pf)))(hK:Rd w 1 KA f bvs)(hel:∀ v,v<f->DnB M (ds.getD v false) w (bvs.getD v (.slice none 0 0)) (BB v))(htv:NatX M w tv tot)(hM:∀ k,M k->k<w.heap.size)(hfit:∀ v,v<f->∀ b∈BB v,FitR b.1)(hlt:∀ v,v<f->Lt [] ((BB v).map (·.1))):
  Ret Tryz.prog 86 [.slice DA f dc,.slice BA f cb,.slice KA f ck,tv] w λu w'=>Off M w' (λW=>IxV W u f ds kf pf BB tot)/\IxV w' u f ds kf pf BB tot/\Ext w w':=by
 obtain ⟨TA,tc,rfl,g2⟩:=id htv.1;have fh:Rd w 1 DA f (ds.map Value.bool):=hdl ▸ hD;refine Jz Tryz.func86 Tryz.ntmps86 rfl kr rfl ?_;refine ρ ?_;refine alc Kw ?_;intro w1 b8 ao e0 db;refine ρ ?_;refine cl (Qrt (fh.ext ao) (λu hu=>by obtain ⟨b,_,rfl⟩:=List.mem_map.1 hu;rfl) om) ?_;rintro _ w2 ⟨⟨bq,c4,rfl,dw,bm,f8⟩,an⟩;refine ρ ?_;refine cl (Qzg ((hBg.ext ao).ext an) (Qqm _ _ _) om) ?_;rintro _ w3 ⟨⟨br,c5,rfl,dx,cr,f9⟩,am⟩;refine ρ ?_;refine bld (Qsw _ _ _ _ _ _ _ _ _ _) ?_;refine ρ ?_;refine alc Kw ?_;intro w4 b9 f0 ar fi;refine ρ ?_;refine stW fi ?_;intro w5 ej g6 ez;have a9:Ext w3 w5:=ez w3 f0 ar;have c8:Ext w w5:=((ao.trans an).trans am).trans a9;have b3:Ext w5 w5.drew:=(Ext.refl w5).drew;have bn:=ej.ext b3;refine ρ ?_;refine drH (λi=>Nat.beq i 7 || Nat.beq i 9) ?_;refine hpre (fuel':=8) 8 [(0,0),(0,1)] #[true,true,false,false,false,false,false,false,false,false] kr kr rfl ?_
 refine ρd ?_;refine Qz ?_;refine Zm (fuel':=7) 3 kr kr rfl rfl ?_;refine ρp ?_;refine ρd ?_;refine Qz ?_;refine Zm (fuel':=6) 4 kr kr rfl rfl ?_;refine ρp ?_;refine ρd ?_;refine Qz ?_;have g7:w5.drew.heap.size=w5.heap.size:=rfl;refine Jxt 2 (lst 10 8) (fun (y:Option Addr×Option Addr)=>[(24,.slice y.2 f f),(9,.pointer (some ⟨b9,0,none⟩)),(8,.pointer (some ⟨b8,0,none⟩)),(0,.slice DA f dc),(2,.slice KA f ck)])
  (λy W=>GrN (λk=>k=b9) w5.drew W/\Blk W b9 31 [.slice bq f c4,.slice br f c5,.slice y.1 f f,.slice none 0 0,.slice TA (Jj tot).length tc] /\
   W.ownsRow w5.drew.heap.size 134 1 (.slice y.1 f f) f (List.replicate f (.slice none 0 0))/\W.ownsRow w5.drew.heap.size 219 1 (.slice y.2 f f) f (List.replicate f (.map none))) ?_ ?_
 rotate_left
 .intro rest;refine itwo 2 5 kr rfl rfl rfl ?_ ?_
  .refine mkn EBks f om (by unfold maxLen;omega) ?_;intro w6 G aa ah _;rw [Yn _ rfl]at ah;refine Jg (Gt (λ_=>aa) ?_);refine Zm (fuel':=4) 6 kr kr rfl rfl ?_;refine ρp ?_;refine ρd ?_;refine Qz ?_;refine itwo 5 7 kr rfl rfl rfl ?_ ?_
   .refine mkn EPls f om (by unfold maxLen;omega) ?_;intro w7 J a1 af _;rw [Yn _ rfl]at af;refine Jg (Gt (λ_=>a1) ?_);refine Jkp 7 kr rfl rfl ?_;have a5:=(bn.ext aa).ext a1;refine sto (a5.at (i:=2) rfl) (a5.frozen 2) ?_;refine Jg (Gt (λh=>by cases h) ?_);refine hlist (listed':=lst 10 8) kr ?_;have ab:GrN (λk=>k=b9) w7 (w7.setCell ⟨b9,2,none⟩ (.slice G f f)):=GrN.set _ rfl;refine rest (G,J) _ _ ⟨(GrN.ext (aa.trans a1)).trans ab,a5.set 2 _,Js (Jk ah a1) ab λg Z e=>?_,Js (af.mono aa.size) ab λg Z e=>?_⟩ sB
    .rw [e]at Z;exact a5.ne_own (Jk ah a1) rfl Z.symm
    .rw [e]at Z;exact a5.ne_own af rfl Z.symm
   .have ae:=bn.ext aa;refine sto (ae.at (i:=2) rfl) (ae.frozen 2) ?_;refine Jg (Gt (λh=>by cases h) ?_);refine Jkp 5 kr rfl rfl ?_;have ab:GrN (λk=>k=b9) w6 (w6.setCell ⟨b9,2,none⟩ (.slice G f f)):=GrN.set _ rfl;refine mkn EPls f om (by unfold maxLen;omega) ?_;intro w7 J a1 af _;rw [Yn _ rfl]at af;refine Jg (Gt (λ_=>a1) ?_);refine hlist (listed':=lst 10 8) kr ?_;refine rest (G,J) _ _ ⟨((GrN.ext aa).trans ab).trans (GrN.ext a1),(ae.set 2 _).ext a1,Jk (Js ah ab λg Z e=>?_) a1,af.mono (nL aa.size ab.size)⟩ sB;rw [e]at Z;exact ae.ne_own ah rfl Z.symm
  .refine mkn EPls f om (by unfold maxLen;omega) ?_;intro w6 J aa au _;rw [Yn _ rfl]at au;refine Jg (Gt (λ_=>aa) ?_);refine Jkp 2 kr rfl rfl ?_;refine mkn EBks f om (by unfold maxLen;omega) ?_;intro w7 G a1 aw _;rw [Yn _ rfl]at aw;refine Jg (Gt (λ_=>a1) ?_);refine Zm (fuel':=3) 6 kr kr rfl rfl ?_;refine ρp ?_;refine ρd ?_;refine Qz ?_;refine Jkp 7 kr rfl rfl ?_;have a5:=(bn.ext aa).ext a1;refine sto (a5.at (i:=2) rfl) (a5.frozen 2) ?_;refine Jg (Gt (λh=>by cases h) ?_);refine hlist (listed':=lst 10 8) kr ?_;have ab:GrN (λk=>k=b9) w7 (w7.setCell ⟨b9,2,none⟩ (.slice G f f)):=GrN.set _ rfl;refine rest (G,J) _ _ ⟨(GrN.ext (aa.trans a1)).trans ab,a5.set 2 _,Js (aw.mono aa.size) ab λg Z e=>?_,Js (Jk au a1) ab λg Z e=>?_⟩ sB
   .rw [e]at Z;exact a5.ne_own aw rfl Z.symm
   .rw [e]at Z;exact a5.ne_own (Jk au a1) rfl Z.symm
 rintro ⟨G,J⟩ w6 ⟨ai,ae,ah,au⟩;simp only at ae ah au;refine Zm (fuel':=1) 8 kr kr rfl rfl ?_;refine ρp ?_;refine ρd ?_;refine Qz ?_;refine Jkp 9 kr rfl rfl ?_;refine sto (ae.at (i:=3) rfl) (ae.frozen 3) ?_;refine Jg (Gt (λh=>by cases h) ?_);refine Ks kr ?_;obtain ⟨w7,bu⟩:∃ w7,w7=w6.setCell ⟨b9,3,none⟩ (.slice J f f):=⟨_,rfl⟩;have ac:GrN (λk=>k=b9) w6 w7:=by rw [bu];exact GrN.set _ rfl
 have a5:Blk w7 b9 31 [.slice bq f c4,.slice br f c5,.slice G f f,.slice J f f,.slice TA (Jj tot).length tc]:=by rw [bu];exact ae.set 3 _
 have aw:=Js ah ac λg Z e=>by rw [e]at Z;exact ae.ne_own ah rfl Z.symm
 have af:=Js au ac λg Z e=>by rw [e]at Z;exact ae.ne_own au rfl Z.symm
 rw [show w6.setCell ((⟨b9,0,none⟩:Addr).add 3) (.slice (G,J).2 f f)=w7 from bu.symm];clear bu;obtain ⟨N,bw⟩:∃ N:Nat->Prop,N=λk=>(Value.slice G f f).ownBlock=some k∨(Value.slice J f f).ownBlock=some k:=⟨_,rfl⟩;obtain ⟨NB,bh⟩:∃ NB:Nat->Prop,NB=λk=>N k∨k=b8∨M k:=⟨_,rfl⟩;have ag:∀ {W W':World},GrN N W W'->GrN NB W W':=λhg=>hg.mono λk _ o=>by rw [bh];exact .inl o
 have lK:∀ g,(Value.slice G f f).ownBlock=some g->w5.heap.size<=g/\g<w7.heap.size:=(Jy aw).choose_spec.choose_spec.2.2;have lP:∀ g,(Value.slice J f f).ownBlock=some g->w5.heap.size<=g/\g<w7.heap.size:=(Jy af).choose_spec.choose_spec.2.2;have av:∀ k,N k->w5.heap.size<=k/\k<w7.heap.size:=λk o=>by
  rw [bw]at o;exact o.elim (lK k) (lP k)
 have bz:¬ N b9:=λo=>by
  rw [bw]at o;rcases o with h'|h'
  .exact a5.ne_own aw rfl h'.symm
  .exact a5.ne_own af rfl h'.symm
 have dh:Ext w w7:=by
  have h1:Ext w3 w6:=(ai.old (a9.trans b3) λk o=>by rw [o];exact ar);have h2:Ext w3 w7:=ac.old h1 λk o=>by rw [o];exact ar
  exact ((ao.trans an).trans am).trans h2
 have fz:b8<w3.heap.size:=nM db.lt (an.trans am).size;have em:Blk w7 b8 31 _:=Jv (Jv ((((db.ext an).ext am).ext (a9.trans b3))) ai λe=>om) ac λe=>by omega
 have ff:Rd w7 1 bq f (ds.map Value.bool):=by
  have h1:Ext w3 w6:=(ai.old (a9.trans b3) λk o=>by rw [o];exact ar);have h2:Ext w3 w7:=ac.old h1 λk o=>by rw [o];exact ar
  exact Rd.ext (Rd.ext bm am) h2
 have eh:Rd w7 3 br f (Ql f (Qd kf pf)):=by
  have h1:Ext w3 w6:=(ai.old (a9.trans b3) λk o=>by rw [o];exact ar);have h2:Ext w3 w7:=ac.old h1 λk o=>by rw [o];exact ar
  exact Rd.ext cr h2
 have fo:w5.heap.size<=w7.heap.size:=nL ai.size ac.size;have f2:w3.heap.size<=w5.heap.size:=a9.size;refine ρ ?_;refine Xm (fun (v:Nat) (C O:List Value)=>[(8,.pointer (some ⟨b8,0,none⟩)),(9,.pointer (some ⟨b9,0,none⟩)),(2,.slice KA f ck),(28,.int .i64 (f:Int)),(29,.int .i64 (v:Int))])
  (λv C O w'=>v<=f/\GrN N w7 w'/\w'.ownsRow w5.drew.heap.size 134 1 (.slice G f f) f C/\w'.ownsRow w5.drew.heap.size 219 1 (.slice J f f) f O /\
   ∀ u,u<v->VarQ NB (ds.getD u false) w' (C.getD u (.slice none 0 0)) (O.getD u (.map none)) (BB u)) (λv _ _=>f-v) 0 _ _ sB
  ⟨Nat.zero_le _,GrN.refl _ _,aw,af,λu hu=>om⟩ ?_
 rintro v C O w8 ⟨hv,a3,d6,d0,e5⟩;have ay:=Jv a5 a3 bz;have a2:Ext w w8:=a3.old dh λk o=>by have:=(av k o).1;have:=c8.size;omega
 refine ρ ?_;refine ci (λh=>?_) (λh=>?_)
 .have lv:v<f:=by have:=oT h;omega
  clear h;obtain ⟨d,hd⟩:∃ d,d=ds.getD v false:=⟨_,rfl⟩;have cd:=hel v lv;rw [<-hd]at cd;have fx:bvs.length=f:=by have:=hK.len;omega
  have g5:C.length=f:=by have:=d6.1;omega
  have g3:O.length=f:=by have:=d0.1;omega
  have d1:∀ k,N k->w.heap.size<=k:=λk o=>nL c8.size (av k o).1;have a8:Ext w8 w8.drew:=(Ext.refl w8).drew;have bo:=ay.ext a8;have co:=Jk d6 a8;have cg:=Jk d0 a8;have fd:Rd w8.drew 1 KA f bvs:=hK.ext (a2.trans a8);have e9:∀ g,(Value.slice G f f).ownBlock=some g->N g:=λg Z=>by rw [bw];exact .inl Z
  have d2:∀ g,(Value.slice J f f).ownBlock=some g->N g:=λg Z=>by rw [bw];exact .inr Z
  have ce:∀ (W:World) (N':Nat->Prop),Ext w W->(∀ k,N' k->(M k∨w.heap.size<=k)/\k<W.heap.size)->Ret Tryz.prog 116 [bvs.getD v (.slice none 0 0)] W λu w'=>DnB N' d w' u (BB v)/\Ext W w':=λW N' ey ea=>
   Qpp ((((cd.old (N':=λk=>M k∨w.heap.size<=k) λk o=>o)).ext ey).old λk o=>.inl (ea k o).1) λk o=>(ea k o).2
  have b5:∀ (W:World) (C:List Value) (u:Value),W.ownsRow w5.drew.heap.size 134 1 (.slice G f f) f C->W.ownsRow w5.drew.heap.size 219 1 (.slice J f f) f O ->
    W.cell? (adr G v)=C[v]?/\W.frozen? (adr G v)=false/\(W.setCell (adr G v) u).ownsRow w5.drew.heap.size 134 1 (.slice G f f) f (C.set v u)/\(W.setCell (adr G v) u).ownsRow w5.drew.heap.size 219 1 (.slice J f f) f O/\GrN N W (W.setCell (adr G v) u):=λW C u ed fb=>by
   obtain ⟨s1,s2,s3,s4,s5⟩:=Zl ed (q:=v) om u;exact ⟨s1,s2,s3,Xu fb ed s5 rfl,GrN.by s5 e9⟩
  refine ρ ?_;refine drM N ?_;refine Uy (fuel':=6) [(0,0),(0,1),(0,2),(0,3),(0,4),(0,5),(0,6),(0,7),(0,8),(0,9)] (lst 16 10) kr kr rfl ?_;refine ρn ?_;refine nld (Jp (bo.at (i:=2) rfl) bz) ?_;refine ρn ?_;refine nld (Jp (bo.at (i:=3) rfl) bz) ?_;refine ρn ?_;refine nix v fd lv ?_;refine ρn ?_;refine nld (v:=bvs.getD v (.slice none 0 0)) (λw' hg=>Ul (hg.old (a2.trans a8) d1) (hK.cell (show bvs[v]?=some (bvs.getD v (.slice none 0 0)) by simp [List.getD,List.getElem?_eq_getElem (show v<bvs.length by omega)]))) ?_;refine ρn ?_;refine Ub ?_;refine mcut 2 (lst 16 14) (fun (y:Value×Nat)=>[(43,.map (some y.2)),(36,.slice J f f),(37,.int .i64 (v:Int)),(10,.int .i64 (v:Int)),(8,.pointer (some ⟨b8,0,none⟩)),(9,.pointer (some ⟨b9,0,none⟩)),(2,.slice KA f ck),(28,.int .i64 (f:Int)),(29,.int .i64 (v:Int))])
   (λy W=>GrN N w8.drew W/\W.ownsRow w5.drew.heap.size 134 1 (.slice G f f) f (C.set v y.1)/\W.ownsRow w5.drew.heap.size 219 1 (.slice J f f) f O/\DnB (λk=>NB k∨k=y.2) d W y.1 (BB v)/\MapS Tryz.prog 9 W y.2 0 (λ_=>none)/\w8.heap.size<=y.2) ?_ ?_
  rotate_left
  .intro rest;have ax:∀ k,NB k->(M k∨w.heap.size<=k)/\k<w8.heap.size:=λk o=>by
    rw [bh]at o;rcases o with o|o|o
    .exact ⟨.inr (d1 k o),Nat.lt_of_lt_of_le (av k o).2 a3.size⟩
    .have:=a3.size;rw [o];exact ⟨.inr e0,om⟩
    .exact ⟨.inl o,Nat.lt_of_lt_of_le (hM k o) a2.size⟩
   have bg:∀ k,N k->k<w8.heap.size:=λk o=>nM (av k o).2 a3.size;refine Jxk 10 11 kr rfl rfl rfl ?_ ?_
   .refine cl (ce _ NB (a2.trans a8) ax) ?_;rintro u W1 ⟨c2,a4⟩;have d7:=Jk co a4;have e7:=Jk cg a4;refine Jg (Xg (GrN.ext a4) ?_);refine Uy (fuel':=4) [(0,12)] #[true,true,true,true,true,true,true,true,true,true,true,false,true,false,false,false] kr kr rfl ?_;refine ρn ?_;refine nix v (Rd.own d7) lv ?_;refine ρn ?_;refine Ub ?_;refine Jxk 11 13 kr rfl rfl rfl ?_ ?_
    .refine mkm 9 ?_;intro W2 mb U ap d5;refine Jg (Xg (GrN.ext U) ?_);refine Vr 13 kr rfl rfl ?_;obtain ⟨s1,s2,s3,s4,s5⟩:=b5 W2 C u (Jk d7 U) (Jk e7 U);refine sto (s1.trans (show C[v]?=some (C.getD v (.slice none 0 0)) by simp [List.getD,List.getElem?_eq_getElem (show v<C.length by omega)])) s2 ?_ rfl rfl rfl rfl rfl (by obtain ⟨_,_,_,_,e,_⟩:=c2;rw [e];rfl);refine Jg (Xg s5 ?_);refine Gs (listed':=lst 16 14) kr ?_;refine rest (u,mb) _ _ ⟨(GrN.ext (a4.trans U)).trans s5,s3,s4,?_,d5.gr s5 λo=>?_,Nat.le_trans a4.size ap⟩ sB
     .exact (((c2.old (N':=λk=>NB k∨k=mb) λk o=>o.imp id λe=>by rw [e];exact ap).ext U).gr ((ag s5).mono λk _ o=>.inl o))
     .have h1:=bg _ o;have h2:w8.heap.size<=W1.heap.size:=a4.size;omega
    .obtain ⟨s1,s2,s3,s4,s5⟩:=b5 W1 C u d7 e7;refine sto (s1.trans (show C[v]?=some (C.getD v (.slice none 0 0)) by simp [List.getD,List.getElem?_eq_getElem (show v<C.length by omega)])) s2 ?_ rfl rfl rfl rfl rfl (by obtain ⟨_,_,_,_,e,_⟩:=c2;rw [e];rfl);refine Jg (Xg s5 ?_);refine Vr 11 kr rfl rfl ?_;refine mkm 9 ?_;intro W2 mb U ap d5;refine Jg (Xg (GrN.ext U) ?_);refine Gs (listed':=lst 16 14) kr ?_;refine rest (u,mb) _ _ ⟨((GrN.ext a4).trans s5).trans (GrN.ext U),Jk s3 U,Jk s4 U,?_,d5,Nat.le_trans a4.size (nL s5.size ap)⟩ sB;exact ((c2.gr (ag s5)).old (N':=λk=>NB k∨k=mb) λk o=>o.imp id λe=>by rw [e];exact ap).ext U
   .refine mkm 9 ?_;intro W1 mb a4 ap ec;refine Jg (Xg (GrN.ext a4) ?_);refine Vr 10 kr rfl rfl ?_;have fq:=ec.lt;have dl:w8.heap.size<=mb:=ap;have g8:w8.heap.size<=W1.heap.size:=a4.size;refine cl (ce _ (λk=>NB k∨k=mb) ((a2.trans a8).trans a4) λk o=>?_) ?_
    .rcases o with o|o
     .have:=ax k o;exact ⟨this.1,om⟩
     .have:=a2.size;exact ⟨.inr om,om⟩
    rintro u W2 ⟨bm,U⟩;have cq:=Jk (Jk co a4) U;have fc:=Jk (Jk cg a4) U;refine Jg (Xg (GrN.ext U) ?_);refine Uy (fuel':=3) [(0,12)] (lst 16 13) kr kr rfl ?_;refine ρn ?_;refine nix v (Rd.own cq) lv ?_;refine ρn ?_;refine Ub ?_;refine Vr 13 kr rfl rfl ?_;obtain ⟨s1,s2,s3,s4,s5⟩:=b5 W2 C u cq fc;refine sto (s1.trans (show C[v]?=some (C.getD v (.slice none 0 0)) by simp [List.getD,List.getElem?_eq_getElem (show v<C.length by omega)])) s2 ?_ rfl rfl rfl rfl rfl (by obtain ⟨_,_,_,_,e,_⟩:=bm;rw [e];rfl);refine Jg (Xg s5 ?_);refine Gs (listed':=lst 16 14) kr ?_;refine rest (u,mb) _ _ ⟨(GrN.ext (a4.trans U)).trans s5,s3,s4,bm.gr ((ag s5).mono λk _ o=>.inl o),(ec.ext U).gr s5 λo=>?_,dl⟩ sB;have:=bg _ o;omega
  rintro ⟨u,mb⟩ w9 ⟨bb,c0,bf,d9,d4,dk⟩;simp only at c0 d9 d4 dk;refine Uy (fuel':=1) [(0,14)] (lst 16 15) kr kr rfl ?_;refine ρn ?_;refine nix v (Rd.own bf) lv ?_;refine ρn ?_;refine Ub ?_;refine Vr 15 kr rfl rfl ?_;obtain ⟨r1,r2,r3,r4,r5⟩:=Zl bf (q:=v) om (.map (some mb));refine sto (r1.trans (show O[v]?=some (O.getD v (.map none)) by simp [List.getD,List.getElem?_eq_getElem (show v<O.length by omega)])) r2 ?_;have b6:=GrN.by r5 d2
  refine Jg (Xg b6 ?_);refine mend kr ?_;obtain ⟨b1,c9⟩:∃ b1,b1=w9.setCell (adr J v) (.map (some mb)):=⟨_,rfl⟩;rw [<-c9]at r3 r5 b6 ⊢;clear c9;have ax:∀ k,N k->k<w8.heap.size:=λk o=>nM (av k o).2 a3.size;have aj:¬ N mb:=λo=>by have:=ax _ o;omega
  have d3:¬ NB mb:=λo=>by
   rw [bh]at o;rcases o with o|o|o
   .exact aj o
   .have:=a3.size;omega
   .have:=hM _ o;have:=a2.size;omega
  have aq:=(GrN.ext (N:=N) a8).trans (bb.trans b6);have bp:=Jv ay aq bz;have bi:=Xu c0 bf r5 rfl;have ef:=d9.gr ((ag b6).mono λk _ o=>.inl o);have cn:=d4.gr b6 aj;have c6:Ext w b1:=aq.old a2 d1;have f5:=cn.lt;clear d9 d4;obtain ⟨ps,GA,gc,c3,rfl,f7,dj,d8,ee,c1⟩:=ef;have dq:(C.set v (.slice GA ps.length gc))[v]?=some (.slice GA ps.length gc):=by rw [List.getElem?_set_self om]
  have dz:¬ b9=mb:=λe=>by have:=ay.lt;omega
  have dn:ps.length=(BB v).length:=by rw [c3,List.length_map]
  have fa:=hTB.ext c6;refine ρ ?_;refine ld (bp.at (i:=2) rfl) ?_;refine ρ ?_;refine ix v (Rd.own bi) lv ?_;refine ρ ?_;refine ld ((Rd.own bi).cell dq) ?_;refine ρ ?_;refine Xm (fun (i:Nat) (mc:Nat) (fm:Lit->Option Value)=>[(8,.pointer (some ⟨b8,0,none⟩)),(9,.pointer (some ⟨b9,0,none⟩)),(2,.slice KA f ck),(10,.int .i64 (v:Int)),(28,.int .i64 (f:Int)),(29,.int .i64 (v:Int)),(50,.slice GA ps.length gc),(51,.int .i64 (ps.length:Int)),(52,.int .i64 (i:Int))])
   (λi mc fm w'=>i<=ps.length/\GrN (λk=>k=mb) b1 w'/\MapS Tryz.prog 9 w' mb mc fm/\mc<=i/\∀ k:Row,fm (.string (idn k))=(Zw ((BB v).take i) k).map λj=>.int .i64 (j:Int)) (λi _ _=>ps.length-i) 0 0 (λ_=>none) sB
   ⟨Nat.zero_le _,GrN.refl _ _,cn,Nat.le_refl _,λk=>rfl⟩ ?_
  rintro i mc fm ak ⟨hi,a6,cm,g4,cy⟩;refine ρ ?_;refine ci (λh=>?_) (λh=>?_)
  .have li:i<ps.length:=by have:=oT h;omega
   clear h;obtain ⟨z,hz⟩:∃ z,z=ps[i]:=⟨_,rfl⟩;have cv:z∈ps:=by rw [hz];exact List.getElem_mem li
   have ex:z.2∈BB v:=by rw [c3];exact List.mem_map_of_mem cv
   have bc:GrN (λk=>NB k∨k=mb) b1 ak:=a6.mono λk _ o=>.inr o;have bj:=Vj d8 bc λh0 ad e=>ee (by have:=d8.1;omega) ad e;have cz:=(c1 z cv).2.gr bc;have be:∀ j u,z.1[j]?=some u->ak.cell? ((adr GA (i*3)).add j)=some u:=λj u hu=>by
    have hj:j<3:=by have:=(List.getElem?_eq_some_iff.1 hu).1;have:=(c1 z cv).1;omega
    rw [Xh];refine bj.cell ?_;rw [Ku (p:=z) (λp hp=>(c1 p hp).1) (by rw [hz];exact List.getElem?_eq_getElem li) hj];exact hu
   obtain ⟨kv,zq,fj,ew,eu⟩:=id cz;obtain ⟨zp,rfl⟩:=eu.ptr;have bd:=hfit v lv z.2 ex;obtain ⟨er,de,rfl,fu,ft,dt,_⟩:=id ew;rw [fj]at be;have cw:Ext w ak:=a6.old c6 λk o=>by rw [o];have:=a2.size;omega
   have da:=Jv bp a6 dz;have e6:=Js r3 a6 λg Z e=>aj (by rw [<-e];exact d2 g Z);refine ρ ?_;refine ixq 3 i bj li ?_;refine ρ ?_;refine lds (cs:=[.slice er z.2.1.length de,.bool d,.pointer zp]) be ?_;refine ρ ?_;refine alc Jcd ?_;intro g1 g9 dg e3 en;refine ρ ?_;refine stb (cs':=[.slice er z.2.1.length de,.bool d,.pointer zp]) en ?_ (Jyc rfl);intro bs dd fw df;have bt:Ext ak bs:=df ak dg e3;have b2:Ext bs bs.drew:=(Ext.refl bs).drew;have a7:=bt.trans b2;have ch:=Rd.own (Jk e6 a7);refine ρ ?_;refine drN (λ_=>False) 10 [(0,0),(0,1),(0,2),(0,3),(0,4),(0,5),(0,6),(0,8),(1,7),(2,9)] kr ?_;refine ρn ?_;refine nld (Jp ((da.ext a7).at (i:=3) rfl) (λe=>e)) ?_;refine ρn ?_;refine nix v ch lv ?_;refine ρn ?_;refine nld (Jp (ch.cell (show (O.set v (.map (some mb)))[v]?=some (.map (some mb)) by rw [List.getElem?_set_self om])) (λe=>e)) ?_;refine ρn ?_
   refine nld (Jp ((dd.ext b2).at (i:=0) rfl) (λe=>e)) ?_;refine ρn ?_;refine nop ?_;refine cl (Jxs (r:=z.2.1) (hTB.ext (cw.trans a7)) (dt.ext a7) (λu hu=>(bd.2 u hu).1) (by have:=bd.len;omega) (by have:=bd.1;omega)) ?_;rintro un g0 ⟨rfl,b4⟩;refine ρ ?_;refine Jb (GrN.ext b4) ?_;refine ρn ?_;refine Xy ?_;refine mup KS ((cm.ext a7).ext b4) (by unfold maxLen;omega) (Gj bd) ?_;intro et eb dv;have bv:GrN (λk=>k=mb) ak et:=(GrN.ext (a7.trans b4)).trans (GrN.by dv λk o=>by injection o with o;exact o.symm);refine ρ ?_;refine Qt (i+1) (mc+1) (upL fm (.string (idn z.2.1)) (some (.int .i64 (i:Int)))) sO ⟨li,a6.trans bv,eb,om,λk=>?_⟩ om;have ep:(BB v).take (i+1)=(BB v).take i++[z.2]:=by
    rw [c3,List.take_succ_eq_append_getElem (by rw [List.length_map];exact li),List.getElem_map,hz]
   have f4:z.2.1 ∉ ((BB v).take i).map (·.1):=by
    have h1:=hlt v lv;rw [<-List.take_append_drop (i+1) (BB v),ep,List.map_append,List.map_append]at h1;intro hm;have h2:=(List.pairwise_append.1 (List.pairwise_append.1 h1).1).2.2 _ hm z.2.1 (by simp);rw [Va]at h2;omega
   rw [ep,Qms _ _ _ f4];have dm:((BB v).take i).length=i:=by rw [List.length_take];omega
   by_cases e:z.2.1=k
   .rw [if_pos e,<-e,Gy (KS.key (Gj bd)),dm];rfl
   .rw [if_neg e,Yg (λe'=>e (Jyv (by injection e'.symm)))];exact cy k
  .have f6:i=ps.length:=by have:=oF h;omega
   clear h;have cx:(BB v).take i=BB v:=by rw [f6,dn,List.take_length]
   rw [cx]at cy;have du:GrN N w8 ak:=by
    refine ((aq.mono λk _ o=>(.inl o:N k∨k=mb)).trans (a6.mono λk _ o=>.inr o)).mono λk o h=>?_;rcases h with h|h
    .exact h
    .omega
   have di:∀ u,u<v->(C.set v (.slice GA ps.length gc)).getD u (.slice none 0 0)=C.getD u (.slice none 0 0)/\(O.set v (.map (some mb))).getD u (.map none)=O.getD u (.map none):=λu hu=>by
    constructor<;>simp [List.getD,List.getElem?_set_ne (show v≠u by omega)]
   have e4:(C.set v (.slice GA ps.length gc)).getD v (.slice none 0 0)=.slice GA ps.length gc/\(O.set v (.map (some mb))).getD v (.map none)=.map (some mb):=by
    constructor
    .rw [List.getD,dq];rfl
    .rw [List.getD,List.getElem?_set_self om];rfl
   have fe:DnB (λk=>NB k∨k=mb) d b1 (.slice GA ps.length gc) (BB v):=⟨ps,GA,gc,c3,rfl,f7,dj,d8,ee,c1⟩;refine ρ ?_;refine Qt (v+1) (C.set v (.slice GA ps.length gc)) (O.set v (.map (some mb))) sO ⟨lv,a3.trans du,Js bi a6 λg Z e=>aj (by rw [<-e];exact e9 g Z),Js r3 a6 λg Z e=>aj (by rw [<-e];exact d2 g Z),λu hu=>?_⟩ om;by_cases e:u=v
   .subst e;rw [e4.1,e4.2,<-hd];refine ⟨(fe.gr (a6.mono λk _ o=>.inr o)).old λk o=>.inl (.inl o),mb,mc,fm,rfl,om,⟨cm,d3⟩,cy⟩
   .obtain ⟨e1,e2⟩:=di u om;rw [e1,e2];exact (e5 u om).gr (ag du)
 .have f3:v=f:=by have:=oF h;omega
  clear h;subst f3;refine ρ ?_;refine ldW ay ?_;refine ρ ?_;have e8:¬ N b8:=λo=>by have:=(av _ o).1;omega
  have el:=Jv em a3 e8;refine stW el ?_;intro w9 ek bb fl;have ba:GrN (λk=>k=b8) w8 w9:=GrN.by bb λk o=>by injection o with o;exact o.symm
  have c7:Ext w w9:=ba.old a2 λk o=>by rw [o];exact e0
  have fy:b8<w1.heap.size:=db.lt;have cj:∀ k,NB k->k<w1.heap.size∨w5.heap.size<=k:=λk o=>by
   rw [bh]at o;rcases o with o|o|o
   .exact .inr (av k o).1
   .left;omega
   .left;exact nM (hM k o) ao.size
  have eo:∀ W,GrN M w9 W->IxV W (.agg #[.slice bq v c4,.slice br v c5,.slice G v v,.slice J v v,.slice TA (Jj tot).length tc]) v ds kf pf BB tot:=λW hW=>by
   have b7:GrN (λk=>k=b8∨M k) w8 W:=(ba.mono λk _ o=>.inl o).trans (hW.mono λk _ o=>.inr o);have ca:GrN NB w8 W:=b7.mono λk _ o=>by rw [bh];exact .inr o
   have cc:GrN NB w7 W:=(ag a3).trans ca;have fg:=Vj ff cc λh0 ad e o=>by
    obtain ⟨fk,e',hb,_⟩:=bm.2 h0;rw [e]at e';injection e' with e';subst e'
    have h1:=f8 ad e;have h2:w2.heap.size<=w5.heap.size:=(am.trans a9).size;rcases cj _ o with h'|h'<;>omega
   have ei:=Vj eh cc λh0 ad e o=>by
    obtain ⟨fk,e',hb,_⟩:=cr.2 h0;rw [e]at e';injection e' with e';subst e'
    have h1:=f9 ad e;have h2:=an.size;rcases cj _ o with h'|h'<;>omega
   have fp:w1.heap.size<=w5.heap.size:=(an.trans (am.trans a9)).size;have c0:=Js d6 b7 λg Z e=>by
    have h1:=(lK g Z).1;rcases e with e|e
    .omega
    .have:=hM g e;have:=ao.size;omega
   have bf:=Js d0 b7 λg Z e=>by
    have h1:=(lP g Z).1;rcases e with e|e
    .omega
    .have:=hM g e;have:=ao.size;omega
   refine ⟨⟨bq,c4,br,c5,G,v,J,v,_,C,O,rfl,dw,dx,?_,ei,Rd.own c0,Rd.own bf,((htv.ext c7).gr hW).1,λu hu=>?_⟩,hdl,f32⟩
   .unfold RdB;rw [hdl];exact fg
   .exact ((e5 u hu).gr ca).none
  refine ρ ?_;exact Iq ek ⟨λW hW=>eo W hW,eo w9 (GrN.refl _ _),c7⟩
end Go.Proofs.YtebcagekopgdhaaGreatDoor
