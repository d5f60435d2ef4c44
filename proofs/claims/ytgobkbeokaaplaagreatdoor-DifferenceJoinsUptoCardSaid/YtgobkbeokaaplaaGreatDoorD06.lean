/- Part 6. -/
import Derived.Test.YtgobkbeokaaplaaGreatDoorD05
set_option linter.unusedVariables false
set_option maxRecDepth 100000
set_option maxHeartbeats 40000000
namespace Go.Proofs.YtgobkbeokaaplaaGreatDoor
open Pl Go.Wk
variable {c i s t u v:Nat}
structure ElR(n f m:Nat)(es perm:List Nat)(vars:Nat->List Nat)(rs:Nat->List Row)(kf:Nat->Nat)(pf:Nat->Int)(R:Nat->List Row): Prop where
 pm:PermOk n f perm
 n32:n<=32
 lt:∀ i,i<m->∀ v∈vars i,v<n
 len:∀ i,i<m->∀ r∈rs i,r.length=(vars i).length
 el:es.length=m
 eb:∀ i,i<m->∀ u,(es.getD i 0).testBit u=true↔u∈vars i
 ep:∀ e∈es,e<2^n
 bags:Jyf n es (Xf perm f) kf pf
 rows:∀ v,v<n->Jdd n m vars rs (kf v ||| 2^v) (R v)
section
variable {n f m:Nat} {es perm:List Nat} {vars:Nat->List Nat} {rs:Nat->List Row} {kf:Nat->Nat} {pf:Nat->Int} {R:Nat->List Row} {ds:List Bool}
abbrev plO(perm:List Nat)(f:Nat): Nat->Nat:=plc (Xf perm f)
theorem PermOk.plN(h:PermOk n f perm)(hv:v<n): plO perm f v<n:=by
 have:=(Gl h.ond (h.omem.2 hv)).1;rw[h.olen]at this;exact this
theorem PermOk.inj(h:PermOk n f perm)(hu:u<n)(hv:v<n)(e:plO perm f u=plO perm f v): u=v:=by
 rw[<-(Gl h.ond (h.omem.2 hu)).2,<-(Gl h.ond (h.omem.2 hv)).2];show(Xf perm f).getD (plO perm f u) 0=(Xf perm f).getD (plO perm f v) 0;rw[e]
theorem PermOk.hits(h:PermOk n f perm)(hi:i<n): ∃ v,v<n/\plO perm f v=i:=by
 have j:i<(Xf perm f).length:=by rw[h.olen];exact hi
 exact⟨(Xf perm f).getD i 0,h.olt (getD_mem' 0 _ j),Jqb h.ond j⟩
theorem PermOk.plPerm(h:PermOk n f perm)(hi:i<perm.length): plO perm f (perm.getD i 0)=i:=by
 have j:i<(Xf perm f).length:=by simp[Xf];omega
 have e:(Xf perm f).getD i 0=perm.getD i 0:=by simp[Xf,List.getD,List.getElem?_append_left hi]
 rw[<-e];exact Jqb h.ond j
theorem PermOk.plFree(h:PermOk n f perm)(hu:u<f): plO perm f u=perm.length+(f-1-u):=by
 have i:perm.length+(f-1-u)<(Xf perm f).length:=by simp[Xf];omega
 have e:(Xf perm f).getD (perm.length+(f-1-u)) 0=u:=by
  simp only[Xf,List.getD];rw[List.getElem?_append_right om,Nat.add_sub_cancel_left,List.getElem?_reverse (by simp;omega),List.length_range,List.getElem?_range om];simp only[Option.getD_some];omega
 have:=Jqb h.ond i;rw[e]at this;exact this
theorem PermOk.plLow(h:PermOk n f perm)(hu:u<f)(hv:f<=v)(hn:v<n): plO perm f v<plO perm f u:=by
 have D:v∈perm:=by
  have:=h.omem.2 hn;rcases List.mem_append.1 this with j|j
  .exact j
  have:=List.mem_range.1 (List.mem_reverse.1 j);omega
 obtain⟨i,hi,e⟩:=List.getElem_of_mem D;have j:=h.plPerm hi;rw[Qd 0 _ hi,e]at j;rw[j,h.plFree hu];omega
theorem ElR.inv(h:ElR n f m es perm vars rs kf pf R): NbInv [] (nb0 n es):=Qqn h.ep
theorem ElR.kbit(h:ElR n f m es perm vars rs kf pf R)(hv:v<n)(hu:(kf v).testBit u=true): u<n/\plO perm f v<plO perm f u:=by
 obtain⟨_,O,_⟩:=h.bags v hv;rw[O]at hu;have i:u<n:=Jbw (nb:=nb0 n es) (ord:=Xf perm f) (N:=n) (λa b j=>(Jzl h.ep j).2.1) hu;obtain⟨J,G⟩:=Jhw h.inv h.pm.ond (h.pm.omem.2 hv) hu;have D:=(Jht h.pm.ond (h.pm.omem.2 hv) (h.pm.omem.2 i)).1 J;refine⟨i,?_⟩;rcases Nat.lt_or_ge (plO perm f v) (plO perm f u) with h6|h6
 .exact h6
 exact absurd (h.pm.inj i hv (Nat.le_antisymm h6 D)) G
theorem ElR.kmem(h:ElR n f m es perm vars rs kf pf R)(hv:v<n): u∈bk (kf v) 32↔(kf v).testBit u=true:=by
 rw[bk_mem];have:=h.n32;exact⟨λi=>i.2,λi=>⟨by have:=(h.kbit hv i).1;omega,i⟩⟩
theorem ElR.par(h:ElR n f m es perm vars rs kf pf R)(hv:v<n): (pf v = -1/\∀ u,(kf v).testBit u=false)∨∃ p:Nat,pf v=p/\(kf v).testBit p=true/\∀ u,(kf v).testBit u=true->plO perm f p<=plO perm f u:=by
 obtain⟨_,D,i⟩:=h.bags v hv;rcases i with⟨i,j⟩|⟨p,i,j,h5⟩
 .exact .inl ⟨i,λu=>by rw[D];exact j u⟩
 exact .inr ⟨p,i,by rw[D];exact j,λu G=>h5 u (by rw[<-D];exact G)⟩
theorem ElR.chf(h:ElR n f m es perm vars rs kf pf R): ChF n pf (plO perm f):=λc v j hp=>by
 rcases h.par j with⟨i,_⟩|⟨p,i,h2,_⟩
 .rw[i]at hp;omega
 have e:p=v:=by rw[i]at hp;omega
 subst e;exact h.kbit j h2
theorem ElR.sub(h:ElR n f m es perm vars rs kf pf R)(hc:c<n)(hp:pf c=(v:Int))(hu:(kf c).testBit u=true): (kf v ||| 2^v).testBit u=true:=by
 have j:=(h.chf c v hc hp).1;rw[Nat.testBit_or,Nat.testBit_two_pow,Bool.or_eq_true,decide_eq_true_eq];by_cases e:u=v
 .exact .inr e.symm
 refine .inl ?_;obtain⟨_,G,_⟩:=h.bags c hc;obtain⟨_,D,_⟩:=h.bags v j;rcases h.par hc with⟨J,_⟩|⟨p,J,h2,h3⟩
 .rw[J]at hp;omega
 have ev:p=v:=by rw[J]at hp;omega
 subst ev;rw[D];refine Qsg h.inv h.pm.ond (h.pm.omem.2 hc) (h.pm.omem.2 j) (by rw[<-G];exact h2) (λx O=>?_) (by rw[<-G];exact hu) e;have i:(kf c).testBit x=true:=by rw[G];exact O
 exact(Jht h.pm.ond (h.pm.omem.2 j) (h.pm.omem.2 (h.kbit hc i).1)).2 (h3 x i)
theorem Qtg(h:∀ u,t.testBit u=true->s.testBit u=true): inS (bk s 32) t=bk t 32:=by
 unfold inS bk;rw[List.filter_filter];refine List.filter_congr λu _=>?_;cases e:t.testBit u with
 | false=>simp
 | true=>simp[h u e]
theorem Jgp(h:∀ u,t.testBit u=true->s.testBit u=true)(z:Row): pmR (Xj (bk s 32) t) (pmR (bk s 32) z)=pmR (bk t 32) z:=by
 have:=Qjt (bk s 32) t z (bk s 32).length (nR _);rw[List.take_length,Qtg h]at this;exact this
theorem ElR.last(h:ElR n f m es perm vars rs kf pf R)(hv:v<f): bk (kf v ||| 2^v) 32=bk (kf v) 32++[v]:=by
 have hn:=h.n32;have G:=h.pm.fn;have i:∀ u,(kf v).testBit u=true->u<v:=λu D=>by
  obtain⟨j,J⟩:=h.kbit om D;rcases Nat.lt_or_ge u f with h3|h3
  .rw[h.pm.plFree hv,h.pm.plFree h3]at J;omega
  have:=h.pm.plLow hv h3 j;omega
 have e:∀ k,bk (kf v ||| 2^v) k=bk (kf v) k++if v<k then[v] else[]:=by
  intro k;induction k with
  | zero=>rfl
  | succ k ih=>
   rw[Gg,Gg,ih,Nat.testBit_or,Nat.testBit_two_pow];by_cases e:v=k
   .subst e;rw[if_neg (Nat.lt_irrefl v),if_pos (Nat.lt_succ_self v)];have:(kf v).testBit v=false:=by
     cases hb:(kf v).testBit v with
     | false=>rfl
     | true=>have:=i v hb;omega
    rw[this];simp
   rw[decide_eq_false e,Bool.or_false];by_cases hb:(kf v).testBit k=true
   .have:=i k hb;rw[if_pos hb,if_neg om,if_neg om,List.append_nil,List.append_nil]
   rw[if_neg hb,List.append_nil,List.append_nil];by_cases j:v<k
   .rw[if_pos j,if_pos om]
   rw[if_neg j,if_neg om]
 rw[e,if_pos om]
theorem ElR.lastC(h:ElR n f m es perm vars rs kf pf R){v:Nat}(hv:v<f): lastC kf v=(bk (kf v) 32).length/\(bk (kf v ||| 2^v) 32).length=(bk (kf v) 32).length+1:=by
 unfold Go.Proofs.YtgobkbeokaaplaaGreatDoor.lastC;rw[h.last hv];simp
theorem ElR.rlt(h:ElR n f m es perm vars rs kf pf R)(hv:v<f): Lt [] (R v):=(h.rows v (by have:=h.pm.fn;omega)).1
theorem ElR.rl(h:ElR n f m es perm vars rs kf pf R)(hv:v<f): ∀ y∈R v,y.length=Go.Proofs.YtgobkbeokaaplaaGreatDoor.lastC kf v+1:=λy i=>by
 obtain⟨z,_,rfl,_⟩:=((h.rows v (by have:=h.pm.fn;omega)).2.1 y).1 i;rw[Xw,(h.lastC hv).2,(h.lastC hv).1]
theorem ElR.big(h:ElR n f m es perm vars rs kf pf R)(c:Nat)(k:Row): TV n f kf pf R ds (plO perm f) c k<=4294967296^20 :=
 Xvk h.chf h.pm.fn h.n32 (λc G=>by
  rcases h.par G with⟨D,_⟩|⟨p,D,h2,_⟩
  .exact .inl D
  exact .inr ⟨p,D,(h.kbit G h2).1⟩) (λu v J j=>h.pm.inj J j) (λi hi=>h.pm.hits hi) (λv j=>h.pm.plN j) (λv j=>h.rlt j) (λv j=>h.rl j) (λv j=>(h.rows v j).2.2) c k
noncomputable def Jkh(n f m:Nat)(perm:List Nat)(vars:Nat->List Nat)(rs:Nat->List Row)(kf:Nat->Nat)(pf:Nat->Int)(R:Nat->List Row)(ds:List Bool): BX V :=
 ⟨V0,n,f,λv=>bk (kf v) 32,pf,plO perm f,(List.range m).map λi=>(vars i,rs i),TV n f kf pf R ds (plO perm f),
  λv k=>entK (Vs (ds.getD v false) (λx=>wtL (TV n f kf pf R ds (plO perm f)) x (chK kf pf v n)) (Go.Proofs.YtgobkbeokaaplaaGreatDoor.lastC kf v) (R v)) k⟩
theorem ElR.W(h:ElR n f m es perm vars rs kf pf R){T:Nat->Row->Nat}{v:Nat}(z:Row): ∀ k,k<=n->wtL T (pmR (bk (kf v ||| 2^v) 32) z) (chK kf pf v k)=Jg k λc=>if pf c=(v:Int) then T c (pmR (bk (kf c) 32) z) else 1
 | 0,_=>rfl
 | k+1,hk=>by
  rw[Jcr,Jkq,h.W z k om,Jg];congr 1
  split
  .rename_i hp;rw[wtL,wtL,Nat.mul_one,Jgp λu hu=>h.sub om hp hu]
  rfl
theorem ElR.bag(h:ElR n f m es perm vars rs kf pf R)(hv:v<n)(z:Row): Ko m vars rs (kf v ||| 2^v) z↔(Jkh n f m perm vars rs kf pf R ds).bag v z:=by
 have key:∀ i j,i<m->j<(vars i).length->((kf v ||| 2^v).testBit ((vars i).getD j 0)=true↔((vars i).getD j 0=v∨(vars i).getD j 0∈bk (kf v) 32)):=λi j hi D=>by
  rw[h.kmem hv,Nat.testBit_or,Nat.testBit_two_pow,Bool.or_eq_true,decide_eq_true_eq];constructor
  .rintro(u|u)
   .exact .inr u
   exact .inl u.symm
  rintro(u|u)
  .exact .inr u.symm
  exact .inl u
 constructor
 .intro O a ha;obtain⟨i,hi,rfl⟩:=List.mem_map.1 ha;have hi:=List.mem_range.1 hi;obtain⟨r,J,Z⟩:=O i hi;exact⟨r,J,λj D G=>Z j D ((key i j hi D).2 G)⟩
 intro O i hi;obtain⟨r,J,Z⟩:=O (vars i,rs i) (List.mem_map.2 ⟨i,List.mem_range.2 hi,rfl⟩);exact⟨r,J,λj D G=>Z j D ((key i j hi D).1 G)⟩
theorem ElR.ok(h:ElR n f m es perm vars rs kf pf R): (Jkh n f m perm vars rs kf pf R ds).Ok:=by
 have a6:=h.pm.fn;have hn:=h.n32;refine⟨a6,λv G=>h.pm.plN G,λu v O G e=>h.pm.inj O G e,λv G u O=>h.kbit G ((h.kmem G).1 O),λv G=>?_,λv G p hp x hx=>?_,λa ha v a3 a2 u a1=>?_,λu v O ab=>?_,λu v O G j=>h.pm.plLow O G j,λa ha=>?_,λv hf G k=>?_,λv G k=>?_⟩
 .rcases h.par G with⟨J,Z⟩|⟨p,J,Z,h3⟩
  .refine .inl ⟨?_,J⟩;refine List.eq_nil_iff_forall_not_mem.2 λu O=>?_;have:=(h.kmem G).1 O;rw[Z u]at this;cases this
  exact .inr ⟨p,J,(h.kmem G).2 Z,λu O=>h3 u ((h.kmem G).1 O)⟩
 .have a4:pf v=(p:Int):=hp;have J:=h.sub G a4 ((h.kmem G).1 hx);rw[Nat.testBit_or,Nat.testBit_two_pow,Bool.or_eq_true,decide_eq_true_eq]at J;rcases J with J|J
  .exact .inr ((h.kmem (h.chf v p G a4).1).2 J)
  exact .inl J.symm
 .obtain⟨i,hi,rfl⟩:=List.mem_map.1 ha;have hi:=List.mem_range.1 hi;simp only at a3 a2 a1;by_cases e:u=v
  .exact .inl e
  refine .inr ?_;have j:=h.lt i hi v a3;have a8:=h.lt i hi u a1;have aa:(kf v).testBit u=true:=by
   rw[(h.bags v j).2.1];refine Qsh ?_ e ((Jht h.pm.ond (h.pm.omem.2 j) (h.pm.omem.2 a8)).2 (a2 u a1));simp only[nb0,Bool.and_eq_true,decide_eq_true_eq,bne_iff_ne,List.any_eq_true];exact⟨⟨j,e⟩,es.getD i 0,getD_mem' 0 es (by rw[h.el];exact hi),(h.eb i hi v).2 a3,(h.eb i hi u).2 a1⟩
  exact(h.kmem j).2 aa
 .have a9:u<f:=O;show plO perm f u<plO perm f v;rw[h.pm.plFree a9,h.pm.plFree om];omega
 .obtain⟨i,hi,rfl⟩:=List.mem_map.1 ha;have hi:=List.mem_range.1 hi;exact⟨h.lt i hi,h.len i hi⟩
 .have a7:f<=v:=hf;have D:v<n:=G;refine⟨Jnn h.chf v a7 k,?_⟩;show 0<TV n f kf pf R ds (plO perm f) v k↔_;rw[Jyb h.chf D a7,redT_pos];constructor
  .rintro⟨x,hx,J,Z⟩;obtain⟨z,hz,rfl,hb⟩:=((h.rows v D).2.1 x).1 hx;refine⟨z,hz,(h.bag D z).1 hb,?_,?_⟩
   .rw[<-Z];exact(Jgp (λu O=>by rw[Nat.testBit_or,O];rfl) z).symm
   rw[h.W z n (nR _)]at J;exact J
  rintro⟨z,hz,hb,Z,J⟩;refine⟨pmR (bk (kf v ||| 2^v) 32) z,((h.rows v D).2.1 _).2 ⟨z,hz,rfl,(h.bag D z).2 hb⟩,?_,?_⟩
  .rw[h.W z n (nR _)];exact J
  rw[<-Z];exact Jgp (λu O=>by rw[Nat.testBit_or,O];rfl) z
 have D:v<f:=G;have j:v<n:=om
 have hg:=(Jvc (d:=ds.getD v false) (wt:=λx=>wtL (TV n f kf pf R ds (plO perm f)) x (chK kf pf v n)) (h.rlt D) (h.rl D)).entK k;refine⟨?_,λp=>?_⟩
 .show TV n f kf pf R ds (plO perm f) v k=_;rw[Jdb h.chf a6 D,Jdz];rfl
 show p∈entK _ k↔_;rw[hg,Qkh,entL_mem];have hl:=h.last D;have a5:=(h.lastC D).1;have e1:∀ z:Row,(pmR (bk (kf v ||| 2^v) 32) z).take (Go.Proofs.YtgobkbeokaaplaaGreatDoor.lastC kf v)=pmR (bk (kf v) 32) z:=λz=>by
  rw[hl,a5];unfold pmR;rw[List.map_append,List.take_left' (by simp)]
 have e2:∀ z:Row,(pmR (bk (kf v ||| 2^v) 32) z).getD (Go.Proofs.YtgobkbeokaaplaaGreatDoor.lastC kf v) V0=z.getD v V0:=λz=>by
  rw[hl,a5];unfold pmR;rw[List.map_append];simp only[List.getD];rw[List.getElem?_append_right (by simp)];simp
 constructor
 .rintro⟨x,hx,J,Z,h3,h4⟩;obtain⟨z,hz,rfl,hb⟩:=((h.rows v j).2.1 x).1 hx;refine⟨z,hz,(h.bag j z).1 hb,?_,?_,?_,h4⟩
  .rw[<-J,e1];rfl
  .rw[<-Z,e2];rfl
  rw[<-h3,h.W z n (nR _)];rfl
 rintro⟨z,hz,hb,J,Z,h3,h4⟩;refine⟨pmR (bk (kf v ||| 2^v) 32) z,((h.rows v j).2.1 _).2 ⟨z,hz,rfl,(h.bag j z).2 hb⟩,?_,?_,?_,h4⟩
 .rw[e1,<-J];rfl
 .rw[e2,<-Z];rfl
 rw[h.W z n (nR _),h3];rfl
theorem ElR.srt(h:ElR n f m es perm vars rs kf pf R): (Jkh n f m perm vars rs kf pf R ds).ix.Srt ds:=by
 refine⟨rfl,λv j k=>?_⟩;have i:v<f:=j;show Jjk _ (entK _ k);rw[(Jvc (h.rlt i) (h.rl i)).entK];exact Xqh (Xjs (h.rlt i) (h.rl i) k)
end
open Go.RowKit Pl Go.Wk
attribute [local irreducible] WC WL QX WD WDB WP WN WG
def Zr(n:Nat)(pf:Nat->Int)(T:Nat->Row->Nat)(ats:List Atm): Nat:=if ats.any (λa=>a.rows.isEmpty) then 0 else Jg n λv=>if pf v = -1 then T v [] else 1
theorem Qmc{n k:Nat}{g:Nat->Nat}(hk:k<n)(h:g k=0): Jg n g=0:=by
 rcases Nat.eq_zero_or_pos (Jg n g) with h'|h'
 .exact h'
 have:=prodR_pos.1 h' k hk;omega
theorem Jjz{S:Nat}(hS:1<=S): ∀ {n:Nat} {g:Nat->Nat},(∀ c,c<n->g c<=S)->Jg n g<=S^n
 | 0,_,_=>nR _
 | n+1,g,h=>by
  rw[Jg,Nat.pow_succ];exact Nat.mul_le_mul (Jjz hS λc hc=>h c om) (h n om)
theorem Qdr{B0 n f b cb cv ct:Nat}{kf:Nat->Nat}{pf:Nat->Int}{R:Nat->List Row}{vR Dv Pv Av Kv:Value}{BA VA TA:Option Addr}{wF w:World}{va ta:List Value}{T:Nat->Row->Nat}{ats:List Atm}{AR:Nat->Prop}(hF:FixW B0 n f kf pf R vR BA wF)(hW:BldW wF b n (bCs n f Dv Pv Av BA cb vR VA cv TA ct Kv) VA cv TA ct w va ta)(hAv:GV 3 AtG wF Av ats)(hpf:∀ c,c<n->pf c = -1∨∃ p:Nat,pf c=p)(hdv:∀ c,c<n->f<=c->DnV AR (T c) w (va.getD c (.map none)))(hdt:∀ c,c<n->c<f->DnT AR (T c) w (ta.getD c (.map none)))(hroot:∀ c,c<n->pf c = -1->f<=c->∀ k,0<T c k->k=[])(hT1:∀ c,f<=c->∀ k,T c k<=1)(hTb:∀ c k,T c k<=4294967296^20):
  Ret Tryz.prog 77 [.pointer (some ⟨b,0,none⟩)] w λu w'=>NatV w' u (Zr n pf T ats)/\Fresh w u/\Ext w w':=by
 have ag:Fresh w (.slice none 0 0):=λad m c e=>by cases e
 obtain⟨a8,hB,b4,bm⟩:=hW;have bq:=hF.n32;obtain⟨AA,ac,c6,rfl,c5,c4,bn,bo⟩:=hAv.parts;refine enE Tryz.func77 Tryz.ntmps77 ?_;refine ldR (hB.at (i:=4) rfl) ?_;refine ρ ?_;refine Qf (fun (i:Nat)=>[(0,.pointer (some ⟨b,0,none⟩)),(2,.slice none 0 0),(12,.slice AA ats.length ac),(13,.int .i64 (ats.length:Int)),(14,.int .i64 (i:Int))])
  (λi w'=>i<=ats.length/\Ext w w'/\∀ j (hj:j<ats.length),j<i->ats[j].rows≠[]) (λi=>ats.length-i) 0 sB ⟨Nat.zero_le _,Ext.refl _,λj hj h=>om⟩ ?_
 rintro i w1 ⟨hi,a3,az⟩;refine ciR (λh=>?_) (λh=>?_)
 .have li:i<ats.length:=by have:=oT h;omega
  clear h;have a1:=a8.trans a3;obtain⟨ce,c3,⟨⟨t1,t2,t3⟩,rfl,ba⟩,an⟩:=bo i li;obtain⟨⟨PA,pc,be,bw,bs,br⟩,bd,ab⟩:=id ba;simp only at be bd;obtain⟨a6,PG,a7,bp,bc,_⟩:=id ab;simp only at bc bp;subst be;subst bd;subst bc;have af:∀ j u,([.slice PA ats[i].vars.length pc,.int .i64 (ats[i].ar:Int),.slice PG a6.length a7]:List Value)[j]?=some u->w1.cell? ((adr AA (i*3)).add j)=some u:=λj u hu=>Gf a1 (an j u hu);refine Qu 3 i (bn.ext a1) li ?_;refine Jt (cs:=[.slice PA ats[i].vars.length pc,.int .i64 (ats[i].ar:Int),.slice PG a6.length a7]) af ?_;refine Jv Yf ?_;intro w2 bb aa ao ap;refine Qw (cs':=[.slice PA ats[i].vars.length pc,.int .i64 (ats[i].ar:Int),.slice PG a6.length a7]) ap ?_ (Ic rfl);intro w3 b8 c2 Z;have a2:Ext w1 w3:=Z w1 aa ao;refine Jt (cs:=[.int .i64 (ats[i].ar:Int),.slice PG a6.length a7]) (λj u hu=>b8.sub (i:=1) (j:=j) (by rw[Nat.add_comm];exact hu)) ?_;refine clR (Jwd (ba.ext (a1.trans a2)).rel) ?_
  rintro u w4 ⟨rfl,a9⟩;refine ciR (λh=>?_) (λh=>?_)
  .have h0:ats[i].rows.length=0:=by have:=Zv h;omega
   refine ρ ?_;refine Jj ⟨?_,ag,(a3.trans a2).trans a9⟩;grind [Zr,List.any_eq_true.2,List.getElem_mem,List.isEmpty_iff,List.eq_nil_of_length_eq_zero,NatV.nil]
  have h0:ats[i].rows.length≠0:=λe=>by have:=Xo h;omega
  refine ρ ?_;refine Qy (i+1) sO ⟨li,(a3.trans a2).trans a9,λj hj bz=>?_⟩ om;grind
 have bj:i=ats.length:=by grind
 clear h;have ai:ats.any (λa=>a.rows.isEmpty)=false:=by grind [List.any_eq_false,List.getElem_of_mem,List.isEmpty_iff.1]
 have aj:Zr n pf T ats=Jg n λv=>if pf v = -1 then T v [] else 1:=by unfold Zr;rw[ai];rfl
 rw[aj];clear aj ai az bj;obtain⟨g,hg⟩:∃ g:Nat->Nat,g=λv=>if pf v = -1 then T v [] else 1:=⟨_,rfl⟩
 rw[<-hg];have b1:∀ v,g v<=4294967296^20:=λv=>by grind
 have bh:∀ k,k<=n->Nb (Jg k g):=λk hk=>Nb.pow (k:=k) (Jjz (Nat.pow_pos (by decide)) λc _=>b1 c) om;have bl:∀ v,Nb (g v):=λv=>Nb.pow (k:=1) (by rw[Nat.pow_one];exact b1 v) om;refine clR (Jwm 1 (by decide) _) ?_;rintro vp w2 ⟨ay,b3,aa⟩;have a4:=a3.trans aa;refine ldR ((hB.ext a4).at (i:=5) rfl) ?_;refine ρ ?_;refine Jo (fun (k:Nat) (vp:Value)=>[(0,.pointer (some ⟨b,0,none⟩)),(2,.slice none 0 0),(5,vp),(27,.slice BA n cb),(28,.int .i64 (n:Int)),(29,.int .i64 (k:Int))])
  (λk vp w'=>k<=n/\Ext w w'/\NatV w' vp (Jg k g)/\Fresh w vp) (λk _=>n-k) 0 vp sB ⟨Nat.zero_le _,a4,ay,λad m c e=>nL a3.size (b3 ad m c e)⟩ ?_
 clear b3 ay a4 aa vp w2;rintro k vp w3 ⟨hk,Z,a5,am⟩;refine ciR (λh=>?_) (λh=>?_)
 .have lk:k<n:=by have:=oT h;omega
  clear h;have ae:∀ j u,(Qp kf pf k)[j]?=some u->w3.cell? ((adr BA (k*3)).add j)=some u:=λj u hu=>by
   have hj:j<3:=by grind [Nat.lt_or_ge,List.getElem?_eq_none,Qp]
   rw[Xh];exact(hF.bags.ext (a8.trans Z)).cell ((Jqs (sz:=3) (λ_ _=>rfl) lk hj).trans hu)
  refine Qu 3 k (hF.bags.ext (a8.trans Z)) lk ?_;refine Jt (cs:=Qp kf pf k) ae ?_;refine Jv Jkp ?_;intro w4 bb a9 ao ap;refine Qw (cs':=Qp kf pf k) ap ?_ Jzd;intro w5 b7 c1 bf;have J:Ext w3 w5:=bf w3 a9 ao;have G:=Z.trans J;refine ldR (b7.at (i:=2) rfl) ?_;refine ciR (λh=>?_) (λh=>?_)
  .have az:pf k≠-1:=by have:=oT h;omega
   refine ρ ?_;refine Jl (k+1) vp sO ⟨lk,G,?_,am⟩ om;have e:Jg (k+1) g=Jg k g:=by rw[Jg,hg];grind
   rw[e];exact a5.ext J
  have hp:pf k = -1:=by grind
  have aq:g k=T k []:=by grind
  have b9:=hB.ext G;refine ldR (b9.at (i:=1) rfl) ?_;refine ciR (λh=>?_) (λh=>?_)
  .have lf:k<f:=by have:=oT h;omega
   obtain⟨mb,m,fm,e1,e2,⟨e3,e4⟩,e5⟩:=hdt k lk lf;have ak:ta[k]?=some (.map (some mb)):=by grind
   have au:Ext w5 w5.drew:=(Ext.refl w5).drew;have D:=G.trans au;have b6:=(Rd.own bm).ext D;have ah:FitR []:=⟨by simp,λv hv=>by cases hv⟩;refine drR (scq 12 [8,10]) ?_;refine Jz ((hB.ext D).at (i:=8) rfl) ?_;refine Jb k b6 lk ?_;refine Jz (b6.cell ak) ?_;refine Jh (Jzt (r:=[]) (A:=none) (c:=0) (hF.tb.ext (a8.trans D)) Rd.nil (λu hu=>by cases hu) (by have:=ah.len;omega) (by simp)) ?_;rintro un w6 ⟨rfl,O⟩;refine⟨O,?_⟩;refine ρd ?_;refine dmlk KS (e3.ext (D.trans O)) zNat (Gu ah) ?_;have ax:NatV w6 ((fm (.string (idn []))).getD (.slice none 0 0)) (g k):=by
    rw[aq];rcases e5 []with⟨h6,h7⟩|⟨y,h6,h7,h8⟩
    .rw[h6,h7];exact NatV.nil _
    rw[h6];exact h8.1.ext (D.trans O)
   refine Jh (Jzm (a5.ext ((J.trans au).trans O)) ax (bh k hk).len (bl k).len) ?_;rintro vr w7 ⟨bg,b2,av⟩;refine⟨av,?_⟩;refine ρd ?_;refine ρ ?_;exact Jl (k+1) vr sO ⟨lk,(D.trans O).trans av,bg,λad m c e=>nL (D.trans O).size (b2 ad m c e)⟩ om
  have lf:f<=k:=by have:=oF h;omega
  obtain⟨mb,m,fm,e1,e2,⟨e3,e4⟩,e5,e6⟩:=hdv k lk lf;have ak:va[k]?=some (.map (some mb)):=by
   rw[<-e1];have hl:=b4.1;simp[List.getD,List.getElem?_eq_getElem (show k<va.length by omega)]
  have b5:=(Rd.own b4).ext G;refine ldR (b9.at (i:=7) rfl) ?_;refine ixR k b5 lk ?_;refine ldR (b5.cell ak) ?_;refine ρ ?_;refine mln KS (e3.ext G) ?_;intro q hq;refine ciR (λh=>?_) (λh=>?_)
  .have h0:q=0:=by have:=Zv h;omega
   have h1:=hq.1 h0 (.string (idn []));rw[e5]at h1;have h2:T k []=0:=by
    rcases Nat.eq_zero_or_pos (T k []) with h'|h'
    .exact h'
    rw[if_pos h']at h1;cases h1
   refine ρ ?_;refine Jj ⟨?_,ag,G⟩;rw[Qmc lk (by rw[aq,h2])];exact NatV.nil _
  have h0:¬ q=0:=λe=>by have:=Xo h;omega
  have h1:0<T k []:=by
   refine Classical.byContradiction λh'=>h0 (hq.2 λkl=>?_);cases hfk:fm kl with
   | none=>rfl
   | some x=>
    obtain⟨r,rfl⟩:=e6 kl (by rw[hfk];simp);rw[e5]at hfk;split at hfk
    .rename_i hr;rw[hroot k lk hp lf r hr]at hr;exact absurd hr h'
    cases hfk
  refine ρ ?_;refine Jl (k+1) vp sO ⟨lk,G,?_,am⟩ om;have h2:=hT1 k lf [];have e:Jg (k+1) g=Jg k g:=by rw[Jg,aq,show T k []=1 by omega,Nat.mul_one]
  rw[e];exact a5.ext J
 have bi:k=n:=by have:=oF h;omega
 rw[bi]at a5;refine ρ ?_;exact Jj ⟨a5,am,Z⟩
open Go.RowKit Pl Go.Wk _root_.Go.Proofs.Tryz
variable {d:Bool}{bs:List BkT}{bvs cs:List Value}{M N:Nat->Prop}{A BA DA KA:Option Addr}{bv tv x:Value}{w:World}
theorem DnB.old{N N':Nat->Prop}{d:Bool}{w:World}{x:Value}{bs:List BkT}(h:DnB N d w x bs)(hs:∀ k,N' k->N k∨w.heap.size<=k): DnB N' d w x bs:=by
 obtain⟨ps,A,c,h1,Z,O,J,j,G,i⟩:=h;refine⟨ps,A,c,h1,Z,O,J,j,λh0 ad e D=>?_,λp hp=>⟨(i p hp).1,(i p hp).2.old hs⟩⟩;rcases hs _ D with h'|h'
 .exact G h0 ad e h'
 have u:0<(Qm ps).length:=by rw[Jlq λp hp=>(i p hp).1];omega
 obtain⟨a1,e',hb,_⟩:=j.2 u;grind
theorem DnB.ext{N:Nat->Prop}{d:Bool}{w w':World}{x:Value}{bs:List BkT}(h:DnB N d w x bs)(hx:Ext w w'): DnB N d w' x bs:=h.gr (GrN.ext hx)
theorem DnB.nil(N:Nat->Prop)(d:Bool)(w:World): DnB N d w (.slice none 0 0) []:=⟨[],none,0,rfl,rfl,Nat.le_refl _,by simp,Rd.nil,λh=>absurd h (by simp),λp hp=>by cases hp⟩
theorem Xzr(w:World): (Instr.buildSlice 51 0 #[]).run prog w=.ok (.slice (some ⟨w.heap.size,0,none⟩) 0 0) (w.alloc (.cells ([]:List Value).toArray 208)):=kr
theorem Qwr{n c:Nat}(hr:Rd w 3 A n cs)(h1:∀ u∈cs,u.oneCell'=true)(hb:n*24<=140737488355328):
  Ret prog 136 [.slice A n c] w λv w'=>(∃ A' c',v=.slice A' n c'/\n<=c'/\Rd w' 3 A' n cs/\∀ ad,A'=some ad->w.heap.size<=ad.block)/\Ext w w':=by
 refine enE func136 ntmps136 ?_;refine ρ ?_;refine Jxn ?_;refine ciR (λh=>?_) (λh=>?_)
 .have hA:A=none:=by simpa using h
  subst hA;have hn:n=0:=by
   rcases Nat.eq_zero_or_pos n with h0|h0
   .exact h0
   obtain⟨ad,h2,_⟩:=hr.isome h0 om;cases h2
  subst hn;refine ρ ?_;exact Jj ⟨⟨none,0,rfl,Nat.le_refl _,hr,λad e=>by cases e⟩,Ext.refl w⟩
 refine Qv Xzr ?_;intro w1 b j O J;refine ρ ?_;refine apo j EBg (J.own (n:=0) O rfl (Nat.zero_le _)) (hr.ext j) h1 (by unfold maxLen;omega) om ?_;intro v2 w2 i G _ _;obtain⟨A2,c2,rfl,D,Z⟩:=Jy i;refine ρ ?_;rw[Nat.zero_add]at i D ⊢;exact Jj ⟨⟨A2,c2,rfl,D,Rd.own i,λad e=>by subst e;exact(Z ad.block rfl).1⟩,G⟩
theorem Qzq(n:Nat)(kf:Nat->Nat)(pf:Nat->Int): ∀ u∈Qo n (Qp kf pf),u.oneCell'=true:=λu j=>by
 obtain⟨i,_,h⟩:=List.mem_flatMap.1 j;exact Jzd u h
theorem Xqw(h:DnB N d w x bs)(hN:∀ k,N k->k<w.heap.size):
  Ret prog 80 [x] w λu w'=>DnB N d w' u bs/\Ext w w':=by
 obtain⟨ps,A,c,rfl,rfl,hc,hl,hR,hA,am⟩:=h;refine enE func80 ntmps80 ?_;refine ρ ?_;refine Jo (fun (i:Nat) (vl:Value)=>[(3,vl),(6,.slice A ps.length c),(7,.int .i64 (ps.length:Int)),(8,.int .i64 (i:Int))])
  (λi vl w'=>i<=ps.length/\Ext w w'/\∃ D:List (List Value×BkT),w'.ownsRow w.heap.size 78 3 vl D.length (Qm D)/\D.map (·.2)=(ps.map (·.2)).take i/\∀ q∈D,q.1.length=3/\BkE d (λk=>N k∨vl.ownBlock=some k) w' q.1 q.2) (λi _=>ps.length-i) 0 (.slice none 0 0) sB
  ⟨Nat.zero_le _,Ext.refl _,[],Zw _ _ _ _,rfl,λq hq=>by cases hq⟩ ?_
 rintro i vl w1 ⟨hi,a2,D,ae,a7,a6⟩;obtain⟨LA,lc,rfl,az,Z⟩:=Jy ae;have bc:D.length=i:=by have:=congrArg List.length a7;rw[List.length_map,List.length_take,List.length_map]at this;omega
 refine ciR (λh=>?_) (λh=>?_)
 .have li:i<ps.length:=by have:=oT h;omega
  clear h;obtain⟨z,hz⟩:∃ z,z=ps[i]:=⟨_,rfl⟩;have ar:z∈ps:=by rw[hz];exact List.getElem_mem li
  obtain⟨ba,ai⟩:=am z ar;have a4:∀ j u,z.1[j]?=some u->w1.cell? ((adr A (i*3)).add j)=some u:=λj u hu=>by
   have hj:j<3:=by have:=(List.getElem?_eq_some_iff.1 hu).1;omega
   rw[Xh];refine(hR.ext a2).cell ?_;rw[Iu (p:=z) (λp hp=>(am p hp).1) (by rw[hz];exact gE li) hj];exact hu
  obtain⟨kv,zq,ap,ab,aa⟩:=id ai;obtain⟨zp,rfl⟩:=aa.ptr;obtain⟨zc,zk,zt⟩:=z;simp only at ap ab aa a4 ai;subst ap;obtain⟨aq,ag,rfl,b8,b7,b9,_⟩:=id ab;refine Qu 3 i (hR.ext a2) li ?_;refine Jt (cs:=[.slice aq zk.length ag,.bool d,.pointer zp]) a4 ?_;refine Jv Jdj ?_;intro w2 bb av b2 b3;refine Qw (cs':=[.slice aq zk.length ag,.bool d,.pointer zp]) b3 ?_ (Jbm rfl);intro w3 ao bd au;have a1:Ext w1 w3:=au w1 av b2;have a5:Ext w3 w3.drew:=(Ext.refl w3).drew;have a8:=a2.trans (a1.trans a5);have a9:=ao.ext a5;have an:¬ (Value.slice LA D.length lc).ownBlock=some bb:=λe=>by have:=(Z bb e).2;omega
  refine ρ ?_;refine drN (λk=>(Value.slice LA D.length lc).ownBlock=some k) 10 [(0,0),(0,1),(0,2),(0,4),(0,5),(1,3),(0,6),(1,7),(1,8),(0,9)] kr ?_;refine ρn ?_;refine nld (Jr (a9.at (i:=0) rfl) an) ?_;refine ρn ?_;refine Xs (cs:=[.bool d,.pointer zp]) (λw' hg j u hu=>Jr (a9.sub (i:=1) (j:=j) (by rw[Nat.add_comm];exact hu)) (by rw[Ug];exact an) w' hg) ?_;refine ρn ?_;refine nop ?_;refine cl (Ye (r:=zk) (ab.v.ext a8) (λk=>N k∨(Value.slice LA D.length lc).ownBlock=some k) λk hk=>?_) ?_
  .rcases hk with h'|h'
   .exact nM (hN k h') a8.size
   exact nM (Z k h').2 (a1.trans a5).size
  rintro kv w4 ⟨ak,aj⟩;obtain⟨J,G,rfl,_⟩:=id ak;refine ρ ?_;refine Qj (GrN.ext aj) ?_;refine ρn ?_;refine Kp (Qvl _ J _ G d zp rfl) ?_;refine ρn ?_;refine nop ?_;refine bsl (Qvf _ J _ G d zp rfl) ?_;intro w5 b5 ac be b4;refine ρ ?_;refine Qj (GrN.ext ac) ?_;refine ρn ?_;refine nop ?_;have O:Ext w1 w5:=((a1.trans a5).trans aj).trans ac;have a3:=a2.trans O;refine apb (m':=1) (news:=[.slice J zk.length G,.bool d,.pointer zp]) EBk (Jk ae O) (b4.rd (n:=1) rfl) (Jbm rfl) (by unfold maxLen;omega) om a3.size ?_;intro v6 w6 ax af ay;have b6:∀ g,(Value.slice LA D.length lc).ownBlock=some g->g<w5.heap.size:=λg eg=>nM (Z g eg).2 O.size;refine ρ ?_;refine Qj (GrN.by af λg eg=>eg) ?_;refine ρn ?_;refine ρ ?_;have key:∀ p:List Value×BkT,BkE d (λk=>N k∨(Value.slice LA D.length lc).ownBlock=some k) w5 p.1 p.2->BkE d (λk=>N k∨v6.ownBlock=some k) w6 p.1 p.2:=λp h1=>by
   have h2:BkE d (λk=>(N k∨(Value.slice LA D.length lc).ownBlock=some k)∨v6.ownBlock=some k) w5 p.1 p.2:=h1.old λk hk=>by
    rcases hk with h'|h'
    .exact .inl h'
    rcases ay k h' with h''|h''
    .exact .inl (.inr h'')
    exact .inr h''
   exact(h2.gr (GrN.by af λk hk=>.inl (.inr hk))).old λk hk=>.inl (hk.elim (λh'=>.inl (.inl h')) .inr)
  have ah:TrV (λk=>N k∨(Value.slice LA D.length lc).ownBlock=some k) w5 zt (.pointer zp):=by
   refine TrV.ext (TrV.old ?_ aa) a3;intro k hk;rcases hk with h'|h'
   .exact .inl h'
   exact .inr (Z k h').1
  refine Jl (i+1) v6 sO ⟨li,Ql a3 af (λg eg=>(Z g eg).1),D++[([.slice J zk.length G,.bool d,.pointer zp],(zk,zt))],?_,?_,λq hq=>?_⟩ om
  .rw[List.length_append,List.length_singleton];have e:Qm (D++[([.slice J zk.length G,.bool d,.pointer zp],(zk,zt))])=Qm D++[.slice J zk.length G,.bool d,.pointer zp]:=by simp[Qm]
   rw[e];exact ax
  .rw[List.map_append,a7,List.take_succ_eq_append_getElem (by rw[List.length_map];exact li),List.getElem_map,<-hz];rfl
  rcases List.mem_append.1 hq with h1|h1
  .exact⟨(a6 q h1).1,key q ((a6 q h1).2.ext O)⟩
  rw[List.mem_singleton.1 h1];exact⟨rfl,key ([.slice J zk.length G,.bool d,.pointer zp],(zk,zt)) ⟨_,_,rfl,ak.ext ac,ah⟩⟩
 have b1:i=ps.length:=by have:=oF h;omega
 rw[b1,List.take_of_length_le (by rw[List.length_map];exact nR _)]at a7;refine ρ ?_;refine Jj ⟨⟨D,LA,lc,a7.symm,rfl,az,om,Rd.own ae,λh0 ad e hk=>?_,λp hp=>⟨(a6 p hp).1,?_⟩⟩,a2⟩
 .have:=(Z ad.block (by rw[e];simp[Value.ownBlock])).1;have:=hN _ hk;omega
 exact(a6 p hp).2.old λk hk=>.inl (.inl hk)
def Ze(bs:List BkT)(k:Row): Option Nat:=bs.findIdx? λb=>decide (b.1=k)
theorem Qtm(bs:List BkT)(b:BkT)(k:Row)(h:b.1 ∉ bs.map (·.1)): Ze (bs++[b]) k=if b.1=k then some bs.length else Ze bs k:=by grind [Ze,List.findIdx?_eq_none_iff,List.mem_map.2]
structure VarQ(N:Nat->Prop)(d:Bool)(w:World)(bv pv:Value)(bs:List BkT): Prop where
 bks:DnB N d w bv bs
 plc:∃ mb m fm,pv=.map (some mb)/\m<=1000000/\(MapS prog 9 w mb m fm/\¬ N mb)/\∀ k:Row,fm (.string (idn k))=(Ze bs k).map λi=>.int .i64 (i:Int)
theorem VarQ.gr{N:Nat->Prop}{d:Bool}{w w':World}{bv pv:Value}{bs:List BkT}(h:VarQ N d w bv pv bs)(hg:GrN N w w'): VarQ N d w' bv pv bs:=by
 refine⟨h.bks.gr hg,?_⟩;obtain⟨j,m,fm,J,G,⟨D,i⟩,u⟩:=h.plc;exact⟨j,m,fm,J,G,⟨D.gr hg i,i⟩,u⟩
theorem VarQ.none{pv:Value}(h:VarQ N d w bv pv bs): VarQ (λ_=>False) d w bv pv bs:=by
 refine⟨h.bks.old λk i=>i.elim,?_⟩;obtain⟨j,m,fm,O,J,⟨G,D⟩,u⟩:=h.plc;grind
structure IxV(w:World)(x:Value)(f:Nat)(ds:List Bool)(kf:Nat->Nat)(pf:Nat->Int)(BB:Nat->List BkT)(tot:Nat): Prop where
 ex:∃ DA dc BA cb KA ck PA cp tv kvs pvs,x=.agg #[.slice DA f dc,.slice BA f cb,.slice KA f ck,.slice PA f cp,tv]/\f<=dc/\f<=cb/\RdB w DA ds/\Rd w 3 BA f (Qo f (Qp kf pf))/\Rd w 1 KA f kvs/\Rd w 1 PA f pvs/\NatV w tv tot /\
  ∀ v,v<f->VarQ (λ_=>False) (ds.getD v false) w (kvs.getD v (.slice none 0 0)) (pvs.getD v (.map none)) (BB v)
 dl:ds.length=f
 f32:f<=32
theorem IxV.ext{w w':World}{x:Value}{f:Nat}{ds:List Bool}{kf:Nat->Nat}{pf:Nat->Int}{BB:Nat->List BkT}{tot:Nat}(h:IxV w x f ds kf pf BB tot)(hx:Ext w w'): IxV w' x f ds kf pf BB tot:=by
 obtain⟨DA,dc,BA,cb,KA,ck,PA,cp,u,j,i,h1,h2,h3,h4,h5,Z,O,J,G⟩:=h.ex;exact⟨⟨DA,dc,BA,cb,KA,ck,PA,cp,u,j,i,h1,h2,h3,Rd.ext h4 hx,h5.ext hx,Z.ext hx,O.ext hx,J.ext hx,λv D=>(G v D).gr (GrN.ext hx)⟩,h.dl,h.f32⟩
theorem Jyg: Qr prog 55=some (.agg #[.slice none 0 0,.slice none 0 0,.slice none 0 0,.slice none 0 0,.slice none 0 0]):=kr
theorem Xkn(A B C:Option Addr)(a b c a' b' c':Nat)(w:World): (Instr.build 55 #[(0,.slice A a a'),(1,.slice B b b'),(4,.slice C c c')]).run prog w=.ok (.agg #[.slice A a a',.slice B b b',.slice none 0 0,.slice none 0 0,.slice C c c']) w:=kr
theorem Qqg{B C D E:Option Addr}{a b c d e a' b' c' d' e':Nat}: ∀ u∈[Value.slice A a a',.slice B b b',.slice C c c',.slice D d d',.slice E e e'],u.oneCell'=true:=λu i=>by
 simp only[List.mem_cons,List.not_mem_nil,or_false]at i;rcases i with rfl|rfl|rfl|rfl|rfl<;>rfl
theorem EBks: ElT prog 52 72 1 24 (.slice none 0 0):=⟨underlying52,info_parts kr,rfl,by decide⟩
theorem EPls: ElT prog 53 228 1 8 (.map none):=⟨underlying53,info_parts kr,rfl,by decide⟩
theorem Ur(z:Value)(h:z.cells = #[z])(n:Nat): (madeCells z.cells (n*1)).toList=List.replicate n z:=by rw[Nat.mul_one,h];exact Us _ _
theorem Xwr{B0 f dc cb ck tot:Nat}{ds:List Bool}{kf:Nat->Nat}{pf:Nat->Int}{BB:Nat->List BkT}(hTB:TB B0 w)(hdl:ds.length=f)(f32:f<=32)(hD:RdB w DA ds)(hBg:Rd w 3 BA f (Qo f (Qp kf pf)))(hK:Rd w 1 KA f bvs)(hel:∀ v,v<f->DnB M (ds.getD v false) w (bvs.getD v (.slice none 0 0)) (BB v))(htv:NatX M w tv tot)(hM:∀ k,M k->k<w.heap.size)(hfit:∀ v,v<f->∀ b∈BB v,FitR b.1)(hlt:∀ v,v<f->Lt [] ((BB v).map (·.1))):
  Ret prog 78 [.slice DA f dc,.slice BA f cb,.slice KA f ck,tv] w λu w'=>Off M w' (λW=>IxV W u f ds kf pf BB tot)/\IxV w' u f ds kf pf BB tot/\Ext w w':=by
 obtain⟨TA,tc,rfl,g3⟩:=id htv.1;have fk:Rd w 1 DA f (ds.map Value.bool):=hdl ▸ hD;refine enE func78 ntmps78 ?_;refine Jv Jyg ?_;intro w1 b8 ap e5 df;refine clR (Qwq (fk.ext ap) (λu hu=>by obtain⟨b,_,rfl⟩:=List.mem_map.1 hu;rfl) om) ?_;rintro _ w2 ⟨⟨bq,c8,rfl,e0,bm,fb⟩,ao⟩;refine clR (Qwr ((hBg.ext ap).ext ao) (Qzq _ _ _) om) ?_;rintro _ w3 ⟨⟨br,c9,rfl,e3,cx,fc⟩,an⟩;refine Zz (Xkn _ _ _ _ _ _ _ _ _ _) ?_;refine Jv Jyg ?_;intro w4 b9 f4 au fl;refine Zk fl ?_;intro w5 em g7 f3;have aa:Ext w3 w5:=f3 w3 f4 au;have cd:Ext w w5:=((ap.trans ao).trans an).trans aa;have b4:Ext w5 w5.drew:=(Ext.refl w5).drew;have bn:=em.ext b4;refine ρ ?_;refine drH (λi=>Nat.beq i 7 || Nat.beq i 9) ?_;refine Zo (fuel':=8) 8 [(0,0),(0,1)] #[true,true,false,false,false,false,false,false,false,false] kr kr rfl ?_;refine ρd ?_
 refine Xb ?_;refine Ub (fuel':=7) 3 kr kr rfl rfl ?_;refine ρp ?_;refine ρd ?_;refine Xb ?_;refine Ub (fuel':=6) 4 kr kr rfl rfl ?_;refine ρp ?_;refine ρd ?_;refine Xb ?_;have g8:w5.drew.heap.size=w5.heap.size:=rfl;refine Jvb 2 (lst 10 8) (fun (y:Option Addr×Option Addr)=>[(24,.slice y.2 f f),(9,.pointer (some ⟨b9,0,none⟩)),(8,.pointer (some ⟨b8,0,none⟩)),(0,.slice DA f dc),(2,.slice KA f ck)])
  (λy W=>GrN (λk=>k=b9) w5.drew W/\Blk W b9 55 [.slice bq f c8,.slice br f c9,.slice y.1 f f,.slice none 0 0,.slice TA (Jq tot).length tc] /\
   W.ownsRow w5.drew.heap.size 72 1 (.slice y.1 f f) f (List.replicate f (.slice none 0 0))/\W.ownsRow w5.drew.heap.size 228 1 (.slice y.2 f f) f (List.replicate f (.map none))) ?_ ?_
 rotate_left
 .intro rest;refine itwo 2 5 kr rfl rfl rfl ?_ ?_
  .refine mkn EBks f om (by unfold maxLen;omega) ?_;intro w6 J ab ai _;rw[Ur _ rfl]at ai;refine Jd (Ks (λ_=>ab) ?_);refine Ub (fuel':=4) 6 kr kr rfl rfl ?_;refine ρp ?_;refine ρd ?_;refine Xb ?_;refine itwo 5 7 kr rfl rfl rfl ?_ ?_
   .refine mkn EPls f om (by unfold maxLen;omega) ?_;intro w7 O a2 ag _;rw[Ur _ rfl]at ag;refine Jd (Ks (λ_=>a2) ?_);refine Jwt 7 kr rfl rfl ?_;have a6:=(bn.ext ab).ext a2;refine sto (a6.at (i:=2) rfl) (a6.frozen 2) ?_;refine Jd (Ks (λh=>by cases h) ?_);refine hlist (listed':=lst 10 8) kr ?_;have ac:GrN (λk=>k=b9) w7 (w7.setCell ⟨b9,2,none⟩ (.slice J f f)):=GrN.set _ rfl;refine rest (J,O) _ _ ⟨(GrN.ext (ab.trans a2)).trans ac,a6.set 2 _,Ja (Jk ai a2) ac λg eg e=>?_,Ja (ag.mono ab.size) ac λg eg e=>?_⟩ sB
    .rw[e]at eg;exact a6.ne_own (Jk ai a2) rfl eg.symm
    rw[e]at eg;exact a6.ne_own ag rfl eg.symm
   have af:=bn.ext ab;refine sto (af.at (i:=2) rfl) (af.frozen 2) ?_;refine Jd (Ks (λh=>by cases h) ?_);refine Jwt 5 kr rfl rfl ?_;have ac:GrN (λk=>k=b9) w6 (w6.setCell ⟨b9,2,none⟩ (.slice J f f)):=GrN.set _ rfl;refine mkn EPls f om (by unfold maxLen;omega) ?_;intro w7 O a2 ag _;rw[Ur _ rfl]at ag;refine Jd (Ks (λ_=>a2) ?_);refine hlist (listed':=lst 10 8) kr ?_;refine rest (J,O) _ _ ⟨((GrN.ext ab).trans ac).trans (GrN.ext a2),(af.set 2 _).ext a2,Jk (Ja ai ac λg eg e=>?_) a2,ag.mono (nL ab.size ac.size)⟩ sB;rw[e]at eg;exact af.ne_own ai rfl eg.symm
  refine mkn EPls f om (by unfold maxLen;omega) ?_;intro w6 O ab av _;rw[Ur _ rfl]at av;refine Jd (Ks (λ_=>ab) ?_);refine Jwt 2 kr rfl rfl ?_;refine mkn EBks f om (by unfold maxLen;omega) ?_;intro w7 J a2 ay _;rw[Ur _ rfl]at ay;refine Jd (Ks (λ_=>a2) ?_);refine Ub (fuel':=3) 6 kr kr rfl rfl ?_;refine ρp ?_;refine ρd ?_;refine Xb ?_;refine Jwt 7 kr rfl rfl ?_;have a6:=(bn.ext ab).ext a2;refine sto (a6.at (i:=2) rfl) (a6.frozen 2) ?_;refine Jd (Ks (λh=>by cases h) ?_);refine hlist (listed':=lst 10 8) kr ?_;have ac:GrN (λk=>k=b9) w7 (w7.setCell ⟨b9,2,none⟩ (.slice J f f)):=GrN.set _ rfl;refine rest (J,O) _ _ ⟨(GrN.ext (ab.trans a2)).trans ac,a6.set 2 _,Ja (ay.mono ab.size) ac λg eg e=>?_,Ja (Jk av a2) ac λg eg e=>?_⟩ sB
  .rw[e]at eg;exact a6.ne_own ay rfl eg.symm
  rw[e]at eg;exact a6.ne_own (Jk av a2) rfl eg.symm
 rintro⟨J,O⟩ w6 ⟨aj,af,ai,av⟩;simp only at af ai av;refine Ub (fuel':=1) 8 kr kr rfl rfl ?_;refine ρp ?_;refine ρd ?_;refine Xb ?_;refine Jwt 9 kr rfl rfl ?_;refine sto (af.at (i:=3) rfl) (af.frozen 3) ?_;refine Jd (Ks (λh=>by cases h) ?_);refine Ud kr ?_;obtain⟨w7,bz⟩:∃ w7,w7=w6.setCell ⟨b9,3,none⟩ (.slice O f f):=⟨_,rfl⟩;have ae:GrN (λk=>k=b9) w6 w7:=by rw[bz];exact GrN.set _ rfl
 have a6:Blk w7 b9 55 [.slice bq f c8,.slice br f c9,.slice J f f,.slice O f f,.slice TA (Jq tot).length tc]:=by rw[bz];exact af.set 3 _
 have ay:=Ja ai ae λg eg e=>by rw[e]at eg;exact af.ne_own ai rfl eg.symm
 have ag:=Ja av ae λg eg e=>by rw[e]at eg;exact af.ne_own av rfl eg.symm
 rw[show w6.setCell ((⟨b9,0,none⟩:Addr).add 3) (.slice (J,O).2 f f)=w7 from bz.symm];clear bz;obtain⟨N,c2⟩:∃ N:Nat->Prop,N=λk=>(Value.slice J f f).ownBlock=some k∨(Value.slice O f f).ownBlock=some k:=⟨_,rfl⟩;obtain⟨NB,bi⟩:∃ NB:Nat->Prop,NB=λk=>N k∨k=b8∨M k:=⟨_,rfl⟩;have ah:∀ {W W':World},GrN N W W'->GrN NB W W':=λhg=>hg.mono λk _ D=>by rw[bi];exact .inl D
 have lK:∀ g,(Value.slice J f f).ownBlock=some g->w5.heap.size<=g/\g<w7.heap.size:=(Jy ay).choose_spec.choose_spec.2.2;have lP:∀ g,(Value.slice O f f).ownBlock=some g->w5.heap.size<=g/\g<w7.heap.size:=(Jy ag).choose_spec.choose_spec.2.2;have ax:∀ k,N k->w5.heap.size<=k/\k<w7.heap.size:=λk D=>by
  rw[c2]at D;exact D.elim (lK k) (lP k)
 have c3:¬ N b9:=λD=>by
  rw[c2]at D;rcases D with h'|h'
  .exact a6.ne_own ay rfl h'.symm
  exact a6.ne_own ag rfl h'.symm
 have dk:Ext w w7:=by
  have h1:Ext w3 w6:=(aj.old (aa.trans b4) λk D=>by rw[D];exact au);have h2:Ext w3 w7:=ae.old h1 λk D=>by rw[D];exact au
  exact((ap.trans ao).trans an).trans h2
 have g0:b8<w3.heap.size:=nM df.lt (ao.trans an).size;have ep:Blk w7 b8 55 _:=Jc (Jc ((((df.ext ao).ext an).ext (aa.trans b4))) aj λe=>om) ae λe=>by omega
 have fi:Rd w7 1 bq f (ds.map Value.bool):=by
  have h1:Ext w3 w6:=(aj.old (aa.trans b4) λk D=>by rw[D];exact au);have h2:Ext w3 w7:=ae.old h1 λk D=>by rw[D];exact au
  exact Rd.ext (Rd.ext bm an) h2
 have ek:Rd w7 3 br f (Qo f (Qp kf pf)):=by
  have h1:Ext w3 w6:=(aj.old (aa.trans b4) λk D=>by rw[D];exact au);have h2:Ext w3 w7:=ae.old h1 λk D=>by rw[D];exact au
  exact Rd.ext cx h2
 have fq:w5.heap.size<=w7.heap.size:=nL aj.size ae.size;have f5:w3.heap.size<=w5.heap.size:=aa.size;refine ρ ?_;refine Xn (fun (v:Nat) (G Z:List Value)=>[(8,.pointer (some ⟨b8,0,none⟩)),(9,.pointer (some ⟨b9,0,none⟩)),(2,.slice KA f ck),(28,.int .i64 (f:Int)),(29,.int .i64 (v:Int))])
  (λv G Z w'=>v<=f/\GrN N w7 w'/\w'.ownsRow w5.drew.heap.size 72 1 (.slice J f f) f G/\w'.ownsRow w5.drew.heap.size 228 1 (.slice O f f) f Z /\
   ∀ u,u<v->VarQ NB (ds.getD u false) w' (G.getD u (.slice none 0 0)) (Z.getD u (.map none)) (BB u)) (λv _ _=>f-v) 0 _ _ sB
  ⟨Nat.zero_le _,GrN.refl _ _,ay,ag,λu hu=>om⟩ ?_
 rintro v G Z w8 ⟨hv,a4,d9,d3,e8⟩;have b1:=Jc a6 a4 c3;have a3:Ext w w8:=a4.old dk λk D=>by have:=(ax k D).1;have:=cd.size;omega
 refine ciR (λh=>?_) (λh=>?_)
 .have lv:v<f:=by have:=oT h;omega
  clear h;obtain⟨d,hd⟩:∃ d,d=ds.getD v false:=⟨_,rfl⟩;have cj:=hel v lv;rw[<-hd]at cj;have fy:bvs.length=f:=by have:=hK.len;omega
  have g6:G.length=f:=by have:=d9.1;omega
  have g4:Z.length=f:=by have:=d3.1;omega
  have d4:∀ k,N k->w.heap.size<=k:=λk D=>nL cd.size (ax k D).1;have a9:Ext w8 w8.drew:=(Ext.refl w8).drew;have bo:=b1.ext a9;have cv:=Jk d9 a9;have cn:=Jk d3 a9;have fg:Rd w8.drew 1 KA f bvs:=hK.ext (a3.trans a9);have ec:∀ g,(Value.slice J f f).ownBlock=some g->N g:=λg eg=>by rw[c2];exact .inl eg
  have d5:∀ g,(Value.slice O f f).ownBlock=some g->N g:=λg eg=>by rw[c2];exact .inr eg
  have cm:∀(W:World) (N':Nat->Prop),Ext w W->(∀ k,N' k->(M k∨w.heap.size<=k)/\k<W.heap.size)->Ret prog 80 [bvs.getD v (.slice none 0 0)] W λu w'=>DnB N' d w' u (BB v)/\Ext W w':=λW N' f2 ed=>
   Xqw ((((cj.old (N':=λk=>M k∨w.heap.size<=k) λk D=>D)).ext f2).old λk D=>.inl (ed k D).1) λk D=>(ed k D).2
  have b6:∀(W:World) (G:List Value) (u:Value),W.ownsRow w5.drew.heap.size 72 1 (.slice J f f) f G->W.ownsRow w5.drew.heap.size 228 1 (.slice O f f) f Z ->
    W.cell? (adr J v)=G[v]?/\W.frozen? (adr J v)=false/\(W.setCell (adr J v) u).ownsRow w5.drew.heap.size 72 1 (.slice J f f) f (G.set v u)/\(W.setCell (adr J v) u).ownsRow w5.drew.heap.size 228 1 (.slice O f f) f Z/\GrN N W (W.setCell (adr J v) u):=λW G u eh fe=>by
   obtain⟨s1,s2,s3,s4,s5⟩:=Zt eh (q:=v) om u;exact⟨s1,s2,s3,Zl fe eh s5 rfl,GrN.by s5 ec⟩
  refine ρ ?_;refine drM N ?_;refine Xu (fuel':=6) [(0,0),(0,1),(0,2),(0,3),(0,4),(0,5),(0,6),(0,7),(0,8),(0,9)] (lst 16 10) kr kr rfl ?_;refine ρn ?_;refine nld (Jr (bo.at (i:=2) rfl) c3) ?_;refine ρn ?_;refine nld (Jr (bo.at (i:=3) rfl) c3) ?_;refine ρn ?_;refine nix v fg lv ?_;refine ρn ?_;refine nld (v:=bvs.getD v (.slice none 0 0)) (λw' hg=>Gf (hg.old (a3.trans a9) d4) (hK.cell (show bvs[v]?=some (bvs.getD v (.slice none 0 0)) by simp[List.getD,List.getElem?_eq_getElem (show v<bvs.length by omega)]))) ?_;refine ρn ?_;refine Zq ?_;refine Jwp 2 (lst 16 14) (fun (y:Value×Nat)=>[(43,.map (some y.2)),(36,.slice O f f),(37,.int .i64 (v:Int)),(10,.int .i64 (v:Int)),(8,.pointer (some ⟨b8,0,none⟩)),(9,.pointer (some ⟨b9,0,none⟩)),(2,.slice KA f ck),(28,.int .i64 (f:Int)),(29,.int .i64 (v:Int))])
   (λy W=>GrN N w8.drew W/\W.ownsRow w5.drew.heap.size 72 1 (.slice J f f) f (G.set v y.1)/\W.ownsRow w5.drew.heap.size 228 1 (.slice O f f) f Z/\DnB (λk=>NB k∨k=y.2) d W y.1 (BB v)/\MapS prog 9 W y.2 0 (λ_=>none)/\w8.heap.size<=y.2) ?_ ?_
  rotate_left
  .intro rest;have az:∀ k,NB k->(M k∨w.heap.size<=k)/\k<w8.heap.size:=λk D=>by
    rw[bi]at D;rcases D with D|D|D
    .exact⟨.inr (d4 k D),Nat.lt_of_lt_of_le (ax k D).2 a4.size⟩
    .have:=a4.size;rw[D];exact⟨.inr e5,om⟩
    exact⟨.inl D,Nat.lt_of_lt_of_le (hM k D) a3.size⟩
   have bh:∀ k,N k->k<w8.heap.size:=λk D=>nM (ax k D).2 a4.size;refine Ga 10 11 kr rfl rfl rfl ?_ ?_
   .refine cl (cm _ NB (a3.trans a9) az) ?_;rintro u W1 ⟨c6,a5⟩;have da:=Jk cv a5;have ea:=Jk cn a5;refine Jd (Qh (GrN.ext a5) ?_);refine Xu (fuel':=4) [(0,12)] #[true,true,true,true,true,true,true,true,true,true,true,false,true,false,false,false] kr kr rfl ?_;refine ρn ?_;refine nix v (Rd.own da) lv ?_;refine ρn ?_;refine Zq ?_;refine Ga 11 13 kr rfl rfl rfl ?_ ?_
    .refine mkm 9 ?_;intro W2 mb a1 aq d8;refine Jd (Qh (GrN.ext a1) ?_);refine Zj 13 kr rfl rfl ?_;obtain⟨s1,s2,s3,s4,s5⟩:=b6 W2 G u (Jk da a1) (Jk ea a1);refine sto (s1.trans (show G[v]?=some (G.getD v (.slice none 0 0)) by simp[List.getD,List.getElem?_eq_getElem (show v<G.length by omega)])) s2 ?_ rfl rfl rfl rfl rfl (by obtain⟨_,_,_,_,e,_⟩:=c6;rw[e];rfl);refine Jd (Qh s5 ?_);refine Gy (listed':=lst 16 14) kr ?_;refine rest (u,mb) _ _ ⟨(GrN.ext (a5.trans a1)).trans s5,s3,s4,?_,d8.gr s5 λD=>?_,Nat.le_trans a5.size aq⟩ sB
     .exact(((c6.old (N':=λk=>NB k∨k=mb) λk D=>D.imp id λe=>by rw[e];exact aq).ext a1).gr ((ah s5).mono λk _ D=>.inl D))
     have h1:=bh _ D;have h2:w8.heap.size<=W1.heap.size:=a5.size;omega
    obtain⟨s1,s2,s3,s4,s5⟩:=b6 W1 G u da ea;refine sto (s1.trans (show G[v]?=some (G.getD v (.slice none 0 0)) by simp[List.getD,List.getElem?_eq_getElem (show v<G.length by omega)])) s2 ?_ rfl rfl rfl rfl rfl (by obtain⟨_,_,_,_,e,_⟩:=c6;rw[e];rfl);refine Jd (Qh s5 ?_);refine Zj 11 kr rfl rfl ?_;refine mkm 9 ?_;intro W2 mb a1 aq d8;refine Jd (Qh (GrN.ext a1) ?_);refine Gy (listed':=lst 16 14) kr ?_;refine rest (u,mb) _ _ ⟨((GrN.ext a5).trans s5).trans (GrN.ext a1),Jk s3 a1,Jk s4 a1,?_,d8,Nat.le_trans a5.size (nL s5.size aq)⟩ sB;exact((c6.gr (ah s5)).old (N':=λk=>NB k∨k=mb) λk D=>D.imp id λe=>by rw[e];exact aq).ext a1
   refine mkm 9 ?_;intro W1 mb a5 aq ef;refine Jd (Qh (GrN.ext a5) ?_);refine Zj 10 kr rfl rfl ?_;have ft:=ef.lt;have dq:w8.heap.size<=mb:=aq;have g9:w8.heap.size<=W1.heap.size:=a5.size;refine cl (cm _ (λk=>NB k∨k=mb) ((a3.trans a9).trans a5) λk D=>?_) ?_
   .rcases D with D|D
    .have:=az k D;exact⟨this.1,om⟩
    have:=a3.size;exact⟨.inr om,om⟩
   rintro u W2 ⟨bm,a1⟩;have cw:=Jk (Jk cv a5) a1;have ff:=Jk (Jk cn a5) a1;refine Jd (Qh (GrN.ext a1) ?_);refine Xu (fuel':=3) [(0,12)] (lst 16 13) kr kr rfl ?_;refine ρn ?_;refine nix v (Rd.own cw) lv ?_;refine ρn ?_;refine Zq ?_;refine Zj 13 kr rfl rfl ?_;obtain⟨s1,s2,s3,s4,s5⟩:=b6 W2 G u cw ff;refine sto (s1.trans (show G[v]?=some (G.getD v (.slice none 0 0)) by simp[List.getD,List.getElem?_eq_getElem (show v<G.length by omega)])) s2 ?_ rfl rfl rfl rfl rfl (by obtain⟨_,_,_,_,e,_⟩:=bm;rw[e];rfl);refine Jd (Qh s5 ?_);refine Gy (listed':=lst 16 14) kr ?_;refine rest (u,mb) _ _ ⟨(GrN.ext (a5.trans a1)).trans s5,s3,s4,bm.gr ((ah s5).mono λk _ D=>.inl D),(ef.ext a1).gr s5 λD=>?_,dq⟩ sB;have:=bh _ D;omega
  rintro⟨u,mb⟩ w9 ⟨bc,c4,bg,dd,d7,dn⟩;simp only at c4 dd d7 dn;refine Xu (fuel':=1) [(0,14)] (lst 16 15) kr kr rfl ?_;refine ρn ?_;refine nix v (Rd.own bg) lv ?_;refine ρn ?_;refine Zq ?_;refine Zj 15 kr rfl rfl ?_;obtain⟨r1,r2,r3,r4,r5⟩:=Zt bg (q:=v) om (.map (some mb));refine sto (r1.trans (show Z[v]?=some (Z.getD v (.map none)) by simp[List.getD,List.getElem?_eq_getElem (show v<Z.length by omega)])) r2 ?_;have b7:=GrN.by r5 d5
  refine Jd (Qh b7 ?_);refine Jzn kr ?_;obtain⟨b2,ce⟩:∃ b2,b2=w9.setCell (adr O v) (.map (some mb)):=⟨_,rfl⟩;rw[<-ce]at r3 r5 b7 ⊢;clear ce;have az:∀ k,N k->k<w8.heap.size:=λk D=>nM (ax k D).2 a4.size;have ak:¬ N mb:=λD=>by have:=az _ D;omega
  have d6:¬ NB mb:=λD=>by
   rw[bi]at D;rcases D with D|D|D
   .exact ak D
   .have:=a4.size;omega
   have:=hM _ D;have:=a3.size;omega
  have ar:=(GrN.ext (N:=N) a9).trans (bc.trans b7);have bp:=Jc b1 ar c3;have bj:=Zl c4 bg r5 rfl;have ej:=dd.gr ((ah b7).mono λk _ D=>.inl D);have cr:=d7.gr b7 ak;have ca:Ext w b2:=ar.old a3 d4;have f8:=cr.lt;clear dd d7;obtain⟨ps,GA,gc,c7,rfl,fa,dm,db,ei,c5⟩:=ej;have dv:(G.set v (.slice GA ps.length gc))[v]?=some (.slice GA ps.length gc):=by rw[List.getElem?_set_self om]
  have e4:¬ b9=mb:=λe=>by have:=b1.lt;omega
  have du:ps.length=(BB v).length:=by rw[c7,List.length_map]
  have fd:=hTB.ext ca;refine ldR (bp.at (i:=2) rfl) ?_;refine ixR v (Rd.own bj) lv ?_;refine ldR ((Rd.own bj).cell dv) ?_;refine ρ ?_;refine Xn (fun (i:Nat) (mc:Nat) (fm:Lit->Option Value)=>[(8,.pointer (some ⟨b8,0,none⟩)),(9,.pointer (some ⟨b9,0,none⟩)),(2,.slice KA f ck),(10,.int .i64 (v:Int)),(28,.int .i64 (f:Int)),(29,.int .i64 (v:Int)),(50,.slice GA ps.length gc),(51,.int .i64 (ps.length:Int)),(52,.int .i64 (i:Int))])
   (λi mc fm w'=>i<=ps.length/\GrN (λk=>k=mb) b2 w'/\MapS prog 9 w' mb mc fm/\mc<=i/\∀ k:Row,fm (.string (idn k))=(Ze ((BB v).take i) k).map λj=>.int .i64 (j:Int)) (λi _ _=>ps.length-i) 0 0 (λ_=>none) sB
   ⟨Nat.zero_le _,GrN.refl _ _,cr,Nat.le_refl _,λk=>rfl⟩ ?_
  rintro i mc fm am ⟨hi,a7,cq,g5,d1⟩;refine ciR (λh=>?_) (λh=>?_)
  .have li:i<ps.length:=by have:=oT h;omega
   clear h;obtain⟨z,hz⟩:∃ z,z=ps[i]:=⟨_,rfl⟩;have cy:z∈ps:=by rw[hz];exact List.getElem_mem li
   have f0:z.2∈BB v:=by rw[c7];exact List.mem_map_of_mem cy
   have bd:GrN (λk=>NB k∨k=mb) b2 am:=a7.mono λk _ D=>.inr D;have bl:=Vb db bd λh0 ad e=>ei (by have:=db.1;omega) ad e;have d2:=(c5 z cy).2.gr bd;have bf:∀ j u,z.1[j]?=some u->am.cell? ((adr GA (i*3)).add j)=some u:=λj u hu=>by
    have hj:j<3:=by have:=(List.getElem?_eq_some_iff.1 hu).1;have:=(c5 z cy).1;omega
    rw[Xh];refine bl.cell ?_;rw[Iu (p:=z) (λp hp=>(c5 p hp).1) (by rw[hz];exact gE li) hj];exact hu
   obtain⟨kv,zq,fn,ez,ey⟩:=id d2;obtain⟨zp,rfl⟩:=ey.ptr;have be:=hfit v lv z.2 f0;obtain⟨ew,dh,rfl,fw,fu,dw,_⟩:=id ez;rw[fn]at bf;have cz:Ext w am:=a7.old ca λk D=>by rw[D];have:=a3.size;omega
   have de:=Jc bp a7 e4;have e9:=Ja r3 a7 λg eg e=>ak (by rw[<-e];exact d5 g eg);refine Qu 3 i bl li ?_;refine Jt (cs:=[.slice ew z.2.1.length dh,.bool d,.pointer zp]) bf ?_;refine Jv Jdj ?_;intro g2 ga dj e6 er;refine Qw (cs':=[.slice ew z.2.1.length dh,.bool d,.pointer zp]) er ?_ (Jbm rfl);intro bs dg fx di;have bw:Ext am bs:=di am dj e6;have b3:Ext bs bs.drew:=(Ext.refl bs).drew;have a8:=bw.trans b3;have co:=Rd.own (Jk e9 a8);refine ρ ?_;refine drN (λ_=>False) 10 [(0,0),(0,1),(0,2),(0,3),(0,4),(0,5),(0,6),(0,8),(1,7),(2,9)] kr ?_;refine ρn ?_;refine nld (Jr ((de.ext a8).at (i:=3) rfl) (λe=>e)) ?_;refine ρn ?_;refine nix v co lv ?_;refine ρn ?_;refine nld (Jr (co.cell (show(Z.set v (.map (some mb)))[v]?=some (.map (some mb)) by rw[List.getElem?_set_self om])) (λe=>e)) ?_;refine ρn ?_;refine nld (Jr ((dg.ext b3).at (i:=0) rfl) (λe=>e)) ?_
   refine ρn ?_;refine nop ?_;refine cl (Jzt (r:=z.2.1) (hTB.ext (cz.trans a8)) (dw.ext a8) (λu hu=>(be.2 u hu).1) (by have:=be.len;omega) (by have:=be.1;omega)) ?_;rintro un g1 ⟨rfl,b5⟩;refine ρ ?_;refine Qj (GrN.ext b5) ?_;refine ρn ?_;refine Xm ?_;refine mup KS ((cq.ext a8).ext b5) (by unfold maxLen;omega) (Gu be) ?_;intro ex ee dz;have c1:GrN (λk=>k=mb) am ex:=(GrN.ext (a8.trans b5)).trans (GrN.by dz λk D=>by injection D with D;exact D.symm);refine ρ ?_;refine Qt (i+1) (mc+1) (upL fm (.string (idn z.2.1)) (some (.int .i64 (i:Int)))) sO ⟨li,a7.trans c1,ee,om,λk=>?_⟩ om;have eu:(BB v).take (i+1)=(BB v).take i++[z.2]:=by
    rw[c7,List.take_succ_eq_append_getElem (by rw[List.length_map];exact li),List.getElem_map,hz]
   have f7:z.2.1 ∉ ((BB v).take i).map (·.1):=by
    have h1:=hlt v lv;rw[<-List.take_append_drop (i+1) (BB v),eu,List.map_append,List.map_append]at h1;intro hm;have h2:=(List.pairwise_append.1 (List.pairwise_append.1 h1).1).2.2 _ hm z.2.1 (by simp);rw[Ya]at h2;omega
   rw[eu,Qtm _ _ _ f7];have dt:((BB v).take i).length=i:=by rw[List.length_take];omega
   by_cases e:z.2.1=k
   .rw[if_pos e,<-e,Kw (KS.key (Gu be)),dt];rfl
   rw[if_neg e,Ul (λe'=>e (Jcf (by injection e'.symm)))];exact d1 k
  have f9:i=ps.length:=by have:=oF h;omega
  clear h;have d0:(BB v).take i=BB v:=by rw[f9,du,List.take_length]
  rw[d0]at d1;have dx:GrN N w8 am:=by
   refine((ar.mono λk _ D=>(.inl D:N k∨k=mb)).trans (a7.mono λk _ D=>.inr D)).mono λk D h=>?_;rcases h with h|h
   .exact h
   omega
  have dl:∀ u,u<v->(G.set v (.slice GA ps.length gc)).getD u (.slice none 0 0)=G.getD u (.slice none 0 0)/\(Z.set v (.map (some mb))).getD u (.map none)=Z.getD u (.map none):=λu hu=>by
   constructor<;>simp[List.getD,List.getElem?_set_ne (show v≠u by omega)]
  have e7:(G.set v (.slice GA ps.length gc)).getD v (.slice none 0 0)=.slice GA ps.length gc/\(Z.set v (.map (some mb))).getD v (.map none)=.map (some mb):=by
   constructor
   .rw[List.getD,dv];rfl
   rw[List.getD,List.getElem?_set_self om];rfl
  have fh:DnB (λk=>NB k∨k=mb) d b2 (.slice GA ps.length gc) (BB v):=⟨ps,GA,gc,c7,rfl,fa,dm,db,ei,c5⟩;refine ρ ?_;refine Qt (v+1) (G.set v (.slice GA ps.length gc)) (Z.set v (.map (some mb))) sO ⟨lv,a4.trans dx,Ja bj a7 λg eg e=>ak (by rw[<-e];exact ec g eg),Ja r3 a7 λg eg e=>ak (by rw[<-e];exact d5 g eg),λu hu=>?_⟩ om;by_cases e:u=v
  .subst e;rw[e7.1,e7.2,<-hd];refine⟨(fh.gr (a7.mono λk _ D=>.inr D)).old λk D=>.inl (.inl D),mb,mc,fm,rfl,om,⟨cq,d6⟩,d1⟩
  obtain⟨e1,e2⟩:=dl u om;rw[e1,e2];exact(e8 u om).gr (ah dx)
 have f6:v=f:=by have:=oF h;omega
 clear h;subst f6;refine Qk b1 ?_;refine ρ ?_;have eb:¬ N b8:=λD=>by have:=(ax _ D).1;omega
 have eo:=Jc ep a4 eb;refine stW eo ?_;intro w9 en bc fp;have bb:GrN (λk=>k=b8) w8 w9:=GrN.by bc λk D=>by injection D with D;exact D.symm
 have cc:Ext w w9:=bb.old a3 λk D=>by rw[D];exact e5
 have fz:b8<w1.heap.size:=df.lt;have cp:∀ k,NB k->k<w1.heap.size∨w5.heap.size<=k:=λk D=>by
  rw[bi]at D;rcases D with D|D|D
  .exact .inr (ax k D).1
  .left;omega
  left;exact nM (hM k D) ap.size
 have et:∀ W,GrN M w9 W->IxV W (.agg #[.slice bq v c8,.slice br v c9,.slice J v v,.slice O v v,.slice TA (Jq tot).length tc]) v ds kf pf BB tot:=λW hW=>by
  have ba:GrN (λk=>k=b8∨M k) w8 W:=(bb.mono λk _ D=>.inl D).trans (hW.mono λk _ D=>.inr D);have cg:GrN NB w8 W:=ba.mono λk _ D=>by rw[bi];exact .inr D
  have ch:GrN NB w7 W:=(ah a4).trans cg;have fj:=Vb fi ch λh0 ad e D=>by
   obtain⟨fo,e',hb,_⟩:=bm.2 h0;rw[e]at e';injection e' with e';subst e'
   have h1:=fb ad e;have h2:w2.heap.size<=w5.heap.size:=(an.trans aa).size;rcases cp _ D with h'|h'<;>omega
  have el:=Vb ek ch λh0 ad e D=>by
   obtain⟨fo,e',hb,_⟩:=cx.2 h0;rw[e]at e';injection e' with e';subst e'
   have h1:=fc ad e;have h2:=ao.size;rcases cp _ D with h'|h'<;>omega
  have fr:w1.heap.size<=w5.heap.size:=(ao.trans (an.trans aa)).size;have c4:=Ja d9 ba λg eg e=>by
   have h1:=(lK g eg).1;rcases e with e|e
   .omega
   have:=hM g e;have:=ap.size;omega
  have bg:=Ja d3 ba λg eg e=>by
   have h1:=(lP g eg).1;rcases e with e|e
   .omega
   have:=hM g e;have:=ap.size;omega
  refine⟨⟨bq,c8,br,c9,J,v,O,v,_,G,Z,rfl,e0,e3,?_,el,Rd.own c4,Rd.own bg,((htv.ext cc).gr hW).1,λu hu=>?_⟩,hdl,f32⟩
  .unfold RdB;rw[hdl];exact fj
  exact((e8 u hu).gr cg).none
 refine ρ ?_;exact Kq en ⟨λW hW=>et W hW,et w9 (GrN.refl _ _),cc⟩
end Go.Proofs.YtgobkbeokaaplaaGreatDoor
namespace Go.Wk
open Go.RowKit
variable {c d e m n t ty:Nat}
theorem nslh{N:Nat->Prop}{P:Program}{al:AL}{w:World}{Q:Exit->Act->World->Prop}{ops:Array Oper}{drest:List (Nat×Oper)}{pos:String}{aft:Array Edge}{tt:TT}[hT:Tab P tt]{x y:Operand}{k:TK}{A:Option Addr}{kd:IntKind}{z:Int}(h:Nat)(kk:WN N P n ops Q drest ((d,.slice A h c)::al) w)(h2:h<=c)(ht:tk tt t=some k:=by rfl)(hk:k.desc=.slice e:=by rfl)(hx:ev al x=some (.slice A m c):=by rfl)(hy:ev al y=some (.int kd z):=by rfl)(hz:z=(h:Int):=by first|rfl|omega)(hd:Nat.blt d n=true:=by rfl):
  WN N P n ops Q ((0,⟨some d,.slice t x none (some y) none,ty,pos,aft,none⟩)::drest) al w:=by
 obtain⟨i,hs⟩:=Iw hT.ok ht hk rfl;refine ny_ (λw' _ a j=>?_) hd kk;have:=Jsz (ty:=ty) (pos:=pos) (aft:=aft) (P:=P) (w:=w') (lo:=none) (hi:=some y) (mx:=none) (l:=0) (h:=h) (q:=c) (dst:=some d) j i hs hx rfl ⟨kd,z,hy,hz⟩ rfl (.inl rfl) (Nat.zero_le _) h2 (nR _);rw[cut0]at this;simpa using this
end Go.Wk
namespace Go.Proofs.YtgobkbeokaaplaaGreatDoor
open Go.RowKit Pl Go.Wk
attribute [local irreducible] WC WL QX WD WDB WP WN WG
variable {ds:List Bool}{l perm:List Nat}{ts:List TA}{B0 c f m n s u v:Nat}{pf:Nat->Int}{vars:Nat->List Nat}{R rs:Nat->List Row}{w:World}
def Ua(e:Nat)(l:List Nat): Nat:=l.foldl (λe v=>e ||| 2^v) e
def Qn(l:List Nat): Nat:=Ua 0 l
theorem Qkg: ∀(l:List Nat) (e u:Nat),(Ua e l).testBit u=true↔e.testBit u=true∨u∈l
 | [],e,u=>by simp[Ua]
 | v::l,e,u=>by
  have:=Qkg l (e ||| 2^v) u;rw[show Ua e (v::l)=Ua (e ||| 2^v) l from rfl,this,Nat.testBit_or,Nat.testBit_two_pow,Bool.or_eq_true,decide_eq_true_eq,List.mem_cons];grind
theorem edgeOf_bit: (Qn l).testBit u=true↔u∈l:=by rw[Qn,Qkg];simp
theorem Jzz(h:∀ v∈l,v<n): Qn l<2^n:=by
 refine Nat.lt_pow_two_of_testBit _ λi hi=>?_;cases hb:(Qn l).testBit i with
 | false=>rfl
 | true=>have:=h i (edgeOf_bit.1 hb);omega
theorem Qkf(e:Nat)(l:List Nat)(v:Nat): Ua e (l++[v])=Ua e l ||| 2^v:=by simp[Ua]
def Vv(m:Nat)(vars:Nat->List Nat): List Nat:=(List.range m).map λi=>Qn (vars i)
structure BldI(n f:Nat)(ds:List Bool)(perm:List Nat)(ts:List TA)(vars:Nat->List Nat)(rs:Nat->List Row): Prop where
 run:RunOk n ts vars rs
 pm:PermOk n f perm
 dl:ds.length=f
 ok:∀ i,i<ts.length->∀ r∈rs i,∀ u∈r,Xl u=true/\Vj u
 cap:∀ kf pf,Jyf n (Vv ts.length vars) (Xf perm f) kf pf->∀ v,v<n->(∀ l:List Row,Lt [] l->(∀ x∈l,∃ z:Row,z.length=n/\x=pmR (bk (kf v ||| 2^v) 32) z/\Ko ts.length vars rs (kf v ||| 2^v) z)->l.length<=65536) /\
  ∀ i,i<ts.length->(rs i).length<=12∨Srt [] ((rs i).map (pmR (Xj (vars i) (kf v ||| 2^v))))
def BldV(w:World)(v:Value)(n f:Nat)(ds:List Bool)(perm:List Nat)(ts:List TA): Prop:=∃ DA dc PA pc AA ac,v=.agg #[.int .i64 (n:Int),.int .i64 (f:Int),.slice DA f dc,.slice PA perm.length pc,.slice AA ts.length ac]/\f<=dc/\RdB w DA ds/\Rd w 1 PA perm.length (Je (nz perm))/\perm.length<=pc /\
 Rd w 3 AA ts.length (atC ts)/\ts.length<=ac/\∀ p∈ts,AtV w p.1 p.2
theorem BldV.ext{w w':World}{v:Value}{n f:Nat}{ds:List Bool}{perm:List Nat}{ts:List TA}(h:BldV w v n f ds perm ts)(hx:Ext w w'): BldV w' v n f ds perm ts:=by
 obtain⟨DA,dc,PA,pc,AA,ac,Z,O,J,G,D,u,j,i⟩:=h;exact⟨DA,dc,PA,pc,AA,ac,Z,O,Rd.ext J hx,G.ext hx,D,u.ext hx,j,λp hp=>(i p hp).ext hx⟩
section
variable {n f:Nat} {ds:List Bool} {perm:List Nat} {ts:List TA} {vars:Nat->List Nat} {rs:Nat->List Row}
theorem BldI.inp(h:BldI n f ds perm ts vars rs){v:Value}(hv:BldV w v n f ds perm ts): InV w v ⟨n,f,ds,nz perm,ts.map (·.2)⟩/\Jqv ⟨n,f,ds,nz perm,ts.map (·.2)⟩:=by
 obtain⟨DA,dc,PA,pc,AA,ac,rfl,h2,h3,h4,h5,h6,Z,O⟩:=hv;have hn:=h.run.n32;have hm:=h.run.m32;have G:=h.pm.len;have J:=h.pm.fn;have i:=h.dl;subst i;constructor
 .exact⟨_,rfl,_,_,_,rfl,⟨DA,dc,rfl,h2,by simp only;omega,h3⟩,⟨PA,pc,by rw[Qg],by rw[Qg];exact h5,by rw[Qg];omega,by rw[Qg];exact h4⟩,⟨ts,AA,ac,rfl,rfl,Z,om,h6,O⟩⟩
 refine⟨by simp only;omega,by simp only;omega,by simp only;omega,by simp only;omega,rfl,by grind [Qg],λv hv=>?_,?_,Jfv h.run⟩
 .obtain⟨u,D,rfl⟩:=List.mem_map.1 hv;have:=h.pm.rng u D;simp only;omega
 exact List.Pairwise.map _ (λa b j e=>j om) h.pm.nd
theorem BldI.es(h:BldI n f ds perm ts vars rs): (Vv ts.length vars).length=ts.length/\(∀ i,i<ts.length->∀ u,((Vv ts.length vars).getD i 0).testBit u=true↔u∈vars i)/\∀ e∈Vv ts.length vars,e<2^n:=by
 refine⟨by simp[Vv],λi hi u=>?_,λe j=>?_⟩
 .grind [Vv,Qn,List.getD,edgeOf_bit]
 obtain⟨i,hi,rfl⟩:=List.mem_map.1 j;exact Jzz (h.run.lt i (List.mem_range.1 hi))
theorem BldI.elr(h:BldI n f ds perm ts vars rs){kf:Nat->Nat}(hb:Jyf n (Vv ts.length vars) (Xf perm f) kf pf)(hR:∀ v,v<n->Jdd n ts.length vars rs (kf v ||| 2^v) (R v)): ElR n f ts.length (Vv ts.length vars) perm vars rs kf pf R :=
 ⟨h.pm,h.run.n32,h.run.lt,h.run.len,h.es.1,h.es.2.1,h.es.2.2,hb,hR⟩
theorem Qcx{v:V}(h:Xl v=true): v.bytes.length<=24:=by
 unfold Xl at h;grind
theorem BldI.fit(h:BldI n f ds perm ts vars rs)(hs:s<2^n){z:Row}(hb:Ko ts.length vars rs s z): FitR (pmR (bk s 32) z)/\∀ u∈pmR (bk s 32) z,Xl u=true:=by
 have key:∀ u∈pmR (bk s 32) z,Xl u=true/\Vj u:=λu D=>by
  obtain⟨c,hc,rfl⟩:=List.mem_map.1 D;have G:=(bk_mem.1 hc).2;have J:=Jkj hs G;obtain⟨i,hi,hm⟩:=h.run.cov c J;obtain⟨j,Z,e⟩:=List.getElem_of_mem hm;obtain⟨r,O,h1⟩:=hb i hi;have e2:(vars i).getD j 0=c:=by rw[Qd 0 _ Z,e]
  have h2:=h1 j Z (by rw[e2];exact G);rw[e2]at h2;rw[<-h2];have a1:=h.run.len i hi r O;exact h.ok i hi r O _ (getD_mem' V0 r om)
 exact⟨⟨by grind [Xw,Yo],λu D=>⟨(key u D).2,Qcx (key u D).1⟩⟩,λu D=>(key u D).1⟩
end
theorem ElR.sb{es:List Nat}{kf:Nat->Nat}(h:ElR n f m es perm vars rs kf pf R)(hv:v<n): kf v ||| 2^v<2^n:=by
 refine Nat.lt_pow_two_of_testBit _ λi hi=>?_;cases hb:(kf v ||| 2^v).testBit i with
 | false=>rfl
 | true=>
  rw[Nat.testBit_or,Nat.testBit_two_pow,Bool.or_eq_true,decide_eq_true_eq]at hb;rcases hb with hb|hb
  .have:=(h.kbit hv hb).1;omega
  omega
theorem Qvw{kf:Nat->Nat}(h:BldI n f ds perm ts vars rs)(hb:Jyf n (Vv ts.length vars) (Xf perm f) kf pf)(hv:v<n): kf v ||| 2^v<2^n:=by
 refine Nat.lt_pow_two_of_testBit _ λi hi=>?_;cases hbt:(kf v ||| 2^v).testBit i with
 | false=>rfl
 | true=>
  rw[Nat.testBit_or,Nat.testBit_two_pow,Bool.or_eq_true,decide_eq_true_eq]at hbt;rcases hbt with hbt|hbt
  .rw[(hb v hv).2.1]at hbt;have:=Jbw (nb:=nb0 n (Vv ts.length vars)) (ord:=Xf perm f) (N:=n) (λa b j=>(Jzl h.es.2.2 j).2.1) hbt;omega
  omega
noncomputable def BBo(n f:Nat)(kf:Nat->Nat)(pf:Nat->Int)(R:Nat->List Row)(ds:List Bool)(pl:Nat->Nat)(v:Nat): List BkT:=Vs (ds.getD v false) (λx=>wtL (TV n f kf pf R ds pl) x (chK kf pf v n)) (lastC kf v) (R v)
theorem EVm: ElT Tryz.prog 156 213 1 8 (.map none):=⟨Tryz.underlying156,info_parts kr,rfl,by decide⟩
theorem ETm: ElT Tryz.prog 157 221 1 8 (.map none):=⟨Tryz.underlying157,info_parts kr,rfl,by decide⟩
theorem EU32s: ElT Tryz.prog 44 64 1 4 (.int .u32 0):=⟨Tryz.underlying44,info_parts kr,rfl,by decide⟩
theorem Xzn(z:Int)(w:World): (Instr.buildSlice 44 1 #[(0,.int .u32 z)]).run Tryz.prog w=.ok (.slice (some ⟨w.heap.size,0,none⟩) 1 1) (w.alloc (.cells [.int .u32 z].toArray 64)):=kr
theorem Qbm: Qr Tryz.prog 151=some (.agg #[.int .i64 0,.slice none 0 0]):=kr
theorem Xkp(z:Int)(w:World): (Instr.build 151 #[(0,.int .i64 z)]).run Tryz.prog w=.ok (.agg #[.int .i64 z,.slice none 0 0]) w:=kr
theorem Qbq: Qr Tryz.prog 159=some (.agg #[.int .i64 0,.int .i64 0,.slice none 0 0,.slice none 0 0,.slice none 0 0,.slice none 0 0,.slice none 0 0,.slice none 0 0,.slice none 0 0,.slice none 0 0]):=kr
theorem Xkv(n f:Int)(D P A B R:Option Addr)(dn dc pn pc an ac bn bc rn rc:Nat)(w:World): (Instr.build 159 #[(0,.agg #[.int .i64 n,.int .i64 f,.slice D dn dc,.slice P pn pc,.slice A an ac]),(1,.slice B bn bc),(2,.slice R rn rc)]).run Tryz.prog w=.ok (.agg #[.int .i64 n,.int .i64 f,.slice D dn dc,.slice P pn pc,.slice A an ac,.slice B bn bc,.slice R rn rc,.slice none 0 0,.slice none 0 0,.slice none 0 0]) w:=kr
theorem Xvj(a b:List Nat): Uc (a++b)=Uc a++Uc b:=by simp[Uc]
theorem Xwp{A:Option Addr}(hA:Rd w 3 A ts.length (atC ts))(hc:ts.length<=c)(hm:ts.length<=1100000)(he:∀ p∈ts,AtV w p.1 p.2): GV 3 AtG w (.slice A ts.length c) (ts.map (·.2)):=by
 refine⟨ts.map λt=>(t.1.cells,t.2),A,c,by simp,by rw[List.length_map],by grind,by grind,?_,λp hp=>?_⟩
 .grind [List.length_map,Qm,atC,List.flatMap_map]
 obtain⟨t,ht,rfl⟩:=List.mem_map.1 hp;exact⟨rfl,t.1,rfl,he t ht⟩
theorem Xjd{sz:Nat}{g : Nat → List Value}(h : ∀ i, i < n → (g i).length = sz)(hf : f ≤ n): (Qo n g).take (f * sz) = Qo f g := by
  induction n with
  | zero => have : f = 0 := by omega
            subst this; simp [Qo]
  | succ n ih =>
    have hl := Jvg (n := n) (fun i hi => h i om)
    by_cases e : f = n + 1
    . subst e
      rw [List.take_of_length_le]
      rw [Jvg h]; exact nR _
    repeat grind [Jqr,Nat.mul_le_mul_right]
theorem Jdf{es:List Nat}{kf:Nat->Nat}(h:ElR n f m es perm vars rs kf pf R)(hv:v<f):
  GInv (ds.getD v false) (λx=>wtL (TV n f kf pf R ds (plO perm f)) x (chK kf pf v n)) (lastC kf v) (R v) (BBo n f kf pf R ds (plO perm f) v):=Jvc (h.rlt hv) (h.rl hv)
theorem Qsl{v:Value}(hTB:TB B0 w)(hI:BldI n f ds perm ts vars rs)(hV:BldV w v n f ds perm ts):
  Ret Tryz.prog 22 [v] w λu w'=>Ext w w'/\∃(x:Value) (st:Int) (kf:Nat->Nat) (pf:Nat->Int) (R:Nat->List Row),u=.tuple #[x,.int .i64 st,.int .i64 0]/\ElR n f ts.length (Vv ts.length vars) perm vars rs kf pf R /\
   Off (λk=>k<w.heap.size) w' λW=>IxV W x f ds kf pf (λu=>if Zr n pf (TV n f kf pf R ds (plO perm f)) (ts.map (·.2))=0 then[] else BBo n f kf pf R ds (plO perm f) u) (Zr n pf (TV n f kf pf R ds (plO perm f)) (ts.map (·.2))):=by
 obtain⟨g9,fy⟩:=hI.inp hV;obtain⟨DA,dc,PA,pc,AA,ac,rfl,j2,hD,hP,iw,hA,g0,fc⟩:=id hV;have br:=hI.run.n32;have ig:=hI.run.m32;have cp:=hI.pm.fn;have iv:=hI.pm.len;have fx:=hI.dl;refine enE Tryz.func22 Tryz.ntmps22 ?_;refine bxR ?_;intro w1 b1 en j6 fa;refine Jv Jyg ?_;intro w2 b2 db hh gg;refine Qk (fa.ext db) ?_;refine clR (Qzd (g9.ext (en.trans db)) (by simp only;omega) (by simp only;omega)) ?_;rintro u w3 ⟨da,e,rfl,he⟩;have h9:e=0:=he.2 fy;subst h9;refine ρ ?_;have d2:=(fa.ext db).ext da;refine ld (d2.at (i:=0) rfl) ?_;refine Zz (Xkp _ _) ?_;refine Jv Qbm ?_;intro w4 b6 gq fz c8;refine Zk c8 ?_;intro w5 gf j1 gn;have dv:Ext w3 w5:=gn w3 gq fz;have dx:Ext w w3:=(en.trans db).trans da;refine ldR ((d2.ext dv).at (i:=4) rfl) ?_;refine ρ ?_;refine Jo (fun (i:Nat) (vl:Value)=>[(1,.pointer (some ⟨b1,0,none⟩)),(2,.pointer (some ⟨b2,0,none⟩)),(3,.int .i64 0),(4,.int .i64 0),(6,.pointer (some ⟨b6,0,none⟩)),(34,.slice AA ts.length ac),(35,.int .i64 (ts.length:Int)),(36,.int .i64 (i:Int))])
  (λi vl w'=>i<=ts.length/\Ext w3 w'/\Blk w' b6 151 [.int .i64 (n:Int),vl]/\w'.ownsRow w3.heap.size 64 1 vl i (Uc ((Vv ts.length vars).take i))) (λi _=>ts.length-i) 0 (.slice none 0 0) sB
  ⟨Nat.zero_le _,dv,gf,by rw[List.take_zero];exact Zw _ _ _ _⟩ ?_
 rintro i vl w6 ⟨hi,ah,c3,c7⟩;obtain⟨EA,ec,rfl,fw,h8⟩:=Jy c7;refine ciR (λh=>?_) (λh=>?_)
 .have li:i<ts.length:=by have:=oT h;omega
  clear h;have ai:=dx.trans ah;have hp:=fc _ (Jyv rfl li);have f0:=hI.run.at_ i li;have e2:=hI.run.lt i li;generalize hq:ts.getD i ta0=q at hp f0
  obtain⟨⟨t1,t2,t3⟩,a⟩:=q;simp only at f0;subst f0;obtain⟨⟨QA,qc,d7,fk,fj,et⟩,d6,de⟩:=id hp;simp only at d7 d6;obtain⟨bd,PG,be,i6,d5,_⟩:=id de;simp only at d5;subst d7;subst d6;subst d5;have iy:(vars i).length<=1100000:=by have:=fj;simpa [Qg] using this
  rw[Qg]at et fk;have aq:∀ j u,([.slice QA (nz (vars i)).length qc,.int .i64 ((vars i).length:Int),.slice PG bd.length be]:List Value)[j]?=some u->w6.cell? ((adr AA (i*3)).add j)=some u:=λj u hu=>Gf ai (Jvv hA rfl li (by rw[hq];exact hu));rw[Qg]at aq;refine Qu 3 i (hA.ext ai) li ?_;refine Jt (cs:=[.slice QA (vars i).length qc,.int .i64 ((vars i).length:Int),.slice PG bd.length be]) aq ?_;refine Jv Yf ?_;intro w7 b8 c6 hg i5;refine Qw (cs':=[.slice QA (vars i).length qc,.int .i64 ((vars i).length:Int),.slice PG bd.length be]) i5 ?_ (Ic rfl);intro w8 ge a5 bg;have ay:Ext w6 w8:=bg w6 c6 hg;refine ldR (ge.at (i:=0) rfl) ?_;refine ρ ?_;have fl:=et.ext (ai.trans ay);refine Qf (fun (j:Nat)=>[(1,.pointer (some ⟨b1,0,none⟩)),(2,.pointer (some ⟨b2,0,none⟩)),(3,.int .i64 0),(4,.int .i64 0),(6,.pointer (some ⟨b6,0,none⟩)),(34,.slice AA ts.length ac),(35,.int .i64 (ts.length:Int)),(36,.int .i64 (i:Int)),(9,.int .u32 (Ua 0 ((vars i).take j):Int)),(41,.slice QA (vars i).length qc),(42,.int .i64 ((vars i).length:Int)),(43,.int .i64 (j:Int))])
   (λj w'=>j<=(vars i).length/\w'=w8) (λj=>(vars i).length-j) 0 sB ⟨Nat.zero_le _,rfl⟩ ?_
  rintro j _ ⟨hj,rfl⟩;refine ciR (λh=>?_) (λh=>?_)
  .have lj:j<(vars i).length:=by have:=oT h;omega
   clear h;have iu:=e2 _ (getD_mem' 0 (vars i) lj);refine ixR j fl lj ?_;refine ldR (fl.cell (show(Je (nz (vars i)))[j]?=some (.int .i64 ((vars i).getD j 0:Int)) by simp[Je,nz,List.getD,List.getElem?_eq_getElem lj])) ?_;refine ρ ?_;refine sl32 (v:=(vars i).getD j 0) om ?_;refine ρ ?_;have i7:Ua 0 ((vars i).take j)<4294967296:=nM (Jzz (l:=(vars i).take j) λv hv=>e2 v (List.mem_of_mem_take hv)) (Jxv br);rw[Jxb i7 (Kh om),<-Qkf,<-Qs 0 lj];refine ρ ?_;exact Qy (j+1) sO ⟨lj,rfl⟩ om
  have gz:j=(vars i).length:=by have:=oF h;omega
  clear h;rw[gz,List.take_length];have cz:=c3.ext ay;refine ldR (cz.at (i:=1) rfl) ?_;refine Qv (Xzn _) ?_;intro w9 b9 cb j5 i4;have du:=ah.trans (ay.trans cb);refine ρ ?_;refine apb (m':=1) (news:=[.int .u32 (Ua 0 (vars i):Int)]) EU32s (Jk c7 (ay.trans cb)) (i4.rd (n:=1) rfl) (by simp[Value.oneCell']) (by unfold maxLen;omega) om du.size ?_;intro iq bc cn e6 ie;have au:Blk bc b6 151 [.int .i64 (n:Int),.slice EA i ec]:=(cz.ext cb).grown e6 ((cz.ext cb).ne_own (Jk c7 (ay.trans cb)) rfl);obtain⟨dt,dm,rfl,_,ii⟩:=Jy cn;refine Xq (au.at (i:=1) rfl) (au.frozen 1) ?_;obtain⟨a4,bq⟩:∃ a4,a4=bc.setCell ⟨b6,1,none⟩ (.slice dt (i+1) dm):=⟨_,rfl⟩;rw[show bc.setCell ((⟨b6,0,none⟩:Addr).add 1) (.slice dt (i+1) dm)=a4 from bq.symm];have bs:GrN (λk=>k=b6) bc a4:=by rw[bq];exact GrN.set _ rfl
  have f6:Blk a4 b6 151 [.int .i64 (n:Int),.slice dt (i+1) dm]:=by rw[bq];exact au.set 1 _
  clear bq;have em:Ext w3 bc:=Ql du e6 λg eg=>(h8 g eg).1;refine ρ ?_;refine Jl (i+1) (.slice dt (i+1) dm) sO ⟨li,bs.old em λk G=>by rw[G];exact fz,f6,?_⟩ om;have e1:(Vv ts.length vars).take (i+1)=(Vv ts.length vars).take i++[Ua 0 (vars i)]:=by
   rw[Qs 0 (by simp[Vv];exact li)];congr 2
   simp[Vv,List.getD,li];rfl
  rw[e1,Xvj];exact Ja cn bs λg eg e=>by rw[e]at eg;exact au.ne_own cn rfl eg.symm
 have fq:i=ts.length:=by have:=oF h;omega
 clear h;have aj:=hI.es.1;rw[fq,List.take_of_length_le (by rw[aj];exact nR _)]at c7;rw[fq]at c3 fw;have fu:=hI.es.2.2;obtain⟨es,ft⟩:∃ es,es=Vv ts.length vars:=⟨_,rfl⟩;rw[<-ft]at aj fu c7;have i0:GrV w6 EA ec n es:=⟨by rw[aj];exact Rd.own c7,by rw[aj];exact fw,br,by rw[aj];omega,fu⟩;rw[<-aj]at c3;have d1:=d2.ext ah;have ai:=dx.trans ah;refine Qk c3 ?_;refine ldR (d1.at (i:=1) rfl) ?_;refine ldR (d1.at (i:=3) rfl) ?_;refine clR (Xjw (pc:=pc) i0 hI.pm (hP.ext ai)) ?_;rintro u w7 ⟨c6,BA,kf,pf,rfl,gx,bl⟩;rw[ft]at bl;refine ρ ?_;have ch:=ai.trans c6;have d0:=d1.ext c6;refine ld (d0.at (i:=0) rfl) ?_;refine ldR (d0.at (i:=4) rfl) ?_;refine ρ ?_;have fp:∀ v,v<n->kf v<4294967296:=λv hv=>(bl v hv).1;have gd:=Rd.own gx;refine cl (Xwk (vars:=vars) (rs:=rs) br (λv hv=>⟨hI.run,Qvw hI bl hv,λi hi r hr=>List.all_eq_true.2 λu hu=>(hI.ok i hi r hr u hu).1,(hI.cap kf pf bl v hv).2⟩) (hA.ext ch) g0 (λp hp=>(fc p hp).ext ch) gd fp (λv hv=>(hI.cap kf pf bl v hv).1)) ?_
 rintro u w8 ⟨bg,va,gm,R,rfl,fo,cy⟩;have a3:=hI.elr bl cy;have ed:=fo.here;have cv:=ed;have fg:=ch.trans bg;obtain⟨RA,rc,ir,rfl,gw,gu,g6,hl⟩:=ed.parts;rw[List.length_map,List.length_range]at gw gu g6 cv ⊢;refine ρ ?_;refine Jo (fun (k:Nat) (st:Int)=>[(1,.pointer (some ⟨b1,0,none⟩)),(2,.pointer (some ⟨b2,0,none⟩)),(12,.slice BA n n),(14,.slice RA n rc),(15,.int .i64 st),(86,.slice RA n rc),(87,.int .i64 (n:Int)),(88,.int .i64 (k:Int))])
  (λk st w'=>k<=n/\Ext w8 w') (λk _=>n-k) 0 gm sB ⟨Nat.zero_le _,Ext.refl _⟩ ?_
 rintro k st w9 ⟨G,a1⟩;refine ciR (λh=>?_) (λh=>?_)
 .have lk:k<n:=by have:=oT h;omega
  clear h;obtain⟨ce,j3,⟨⟨t1,t2,t3⟩,rfl,fb⟩,aq⟩:=hl k (by simpa using lk);simp only[List.getElem_map,List.getElem_range]at fb;obtain⟨⟨QA,qc,d7,fk,fj,et⟩,d6,df⟩:=id fb;simp only at d7 d6;obtain⟨bd,PG,be,i6,d5,_⟩:=id df;simp only at d5;subst d7;subst d6;subst d5;refine Qu 3 k (g6.ext a1) lk ?_;refine Jt (cs:=[.slice QA (Yb (kf k ||| 2^k) (R k)).vars.length qc,.int .i64 ((Yb (kf k ||| 2^k) (R k)).ar:Int),.slice PG bd.length be]) (λj u hu=>Gf a1 (aq j u hu)) ?_;refine Jv Yf ?_;intro bc bb cg ha i3;refine Qw (cs':=[.slice QA (Yb (kf k ||| 2^k) (R k)).vars.length qc,.int .i64 ((Yb (kf k ||| 2^k) (R k)).ar:Int),.slice PG bd.length be]) i3 ?_ (Ic rfl);intro a4 f5 bs cd;have ap:Ext w9 a4:=cd w9 cg ha;refine Jt (cs:=[.int .i64 ((Yb (kf k ||| 2^k) (R k)).ar:Int),.slice PG bd.length be]) (λj u hu=>f5.sub (i:=1) (j:=j) (by rw[Nat.add_comm];exact hu)) ?_;refine clR (Jwd (fb.ext (a1.trans ap)).rel) ?_
  rintro u ao ⟨rfl,O⟩;obtain⟨ek,fi⟩:∃ ek:Int,ek=IntKind.i64.wrap (st+((Yb (kf k ||| 2^k) (R k)).rows.length:Int)):=⟨_,rfl⟩;refine ρ ?_;rw[<-fi];refine ρ ?_;exact Jl (k+1) ek sO ⟨lk,(a1.trans ap).trans O⟩ om
 have iz:k=n:=by have:=oF h;omega
 clear h;have a2:=fg.trans a1;have aa:=(d0.ext bg).ext a1;refine Qk aa ?_;refine Zz (Xkv _ _ _ _ _ _ _ _ _ _ _ _ _ _ _ _ _ _) ?_;refine Jv Qbq ?_;intro bc D cg b4 gh;refine Zk gh ?_;intro a4 dk bs cd;have ap:Ext w9 a4:=cd w9 cg b4;have bj:∀ v,v<n->∀ x∈R v,(x.length=(bk (kf v ||| 2^v) 32).length/\FitR x)/\∀ u∈x,Xl u=true:=λv hv x hx=>by
  obtain⟨z,_,rfl,hb⟩:=((cy v hv).2.1 x).1 hx;have:=hI.fit (Qvw hI bl hv) hb;exact⟨⟨Xw _ _,this.1⟩,this.2⟩
 have hF:FixW B0 n f kf pf R (.slice RA n rc) BA w9:=⟨hTB.ext a2,gd.ext (bg.trans a1),cv.ext a1 λcs a h=>Jnh h a1,br,cp,fp,λc hc e=>by have:=(a3.chf c c hc e).2;omega,λv hv x hx=>(bj v hv x hx).1,λv hv=>(cy v hv).2.2⟩;have fe:Ext a4 a4.drew:=(Ext.refl a4).drew;have bm:=ap.trans fe;have eh:=(aa.ext bm);have f4:=dk.ext fe;have dz:¬ b1=D:=λe=>by have:=aa.lt;omega
 refine ρ ?_;refine drM (λk=>k=D) ?_;refine Xu (fuel':=6) [(0,0),(0,1),(0,3),(0,4)] #[true,true,false,true,true,false,false,false,false,false] kr kr rfl ?_;refine ρn ?_;refine nld (Jr (eh.at (i:=0) rfl) dz) ?_;refine ρn ?_;refine nld (Jr (eh.at (i:=0) rfl) dz) ?_;refine ρn ?_;refine Zq ?_;refine Jwp 2 (lst 10 8) (fun (y:Option Addr×Option Addr)=>[(107,.slice y.2 n n),(1,.pointer (some ⟨b1,0,none⟩)),(2,.pointer (some ⟨b2,0,none⟩)),(12,.slice BA n n),(15,.int .i64 st),(18,.pointer (some ⟨D,0,none⟩))])
  (λy W=>GrN (λk=>k=D) a4.drew W/\Blk W D 159 [.int .i64 (n:Int),.int .i64 (f:Int),.slice DA f dc,.slice PA perm.length pc,.slice AA ts.length ac,.slice BA n n,.slice RA n rc,.slice y.1 n n,.slice none 0 0,.slice none 0 0] /\
   W.ownsRow a4.drew.heap.size 213 1 (.slice y.1 n n) n (List.replicate n (.map none))/\W.ownsRow a4.drew.heap.size 221 1 (.slice y.2 n n) n (List.replicate n (.map none))) ?_ ?_
 rotate_left
 .intro rest;refine Ga 2 5 kr rfl rfl rfl ?_ ?_
  .refine mkn EVm n om (by unfold maxLen;omega) ?_;intro ao VA O a8 _;rw[Ur _ rfl]at a8;refine Jd (Qh (GrN.ext O) ?_);refine Xu (fuel':=4) [(0,6)] #[true,true,true,true,true,false,true,false,false,false] kr kr rfl ?_;refine ρn ?_;refine Zq ?_;refine Ga 5 7 kr rfl rfl rfl ?_ ?_
   .refine mkn ETm n om (by unfold maxLen;omega) ?_;intro ab TA J a9 _;rw[Ur _ rfl]at a9;refine Jd (Qh (GrN.ext J) ?_);refine Zj 7 kr rfl rfl ?_;have ag:=(f4.ext O).ext J;refine sto (ag.at (i:=7) rfl) (ag.frozen 7) ?_;have a5:GrN (λk=>k=D) ab (ab.setCell ⟨D,7,none⟩ (.slice VA n n)):=GrN.set _ rfl;refine Jd (Qh a5 ?_);refine Gy (listed':=lst 10 8) kr ?_;refine rest (VA,TA) _ _ ⟨(GrN.ext (O.trans J)).trans a5,ag.set 7 _,Ja (Jk a8 J) a5 λg eg e=>?_,Ja (a9.mono O.size) a5 λg eg e=>?_⟩ sB
    .rw[e]at eg;exact ag.ne_own (Jk a8 J) rfl eg.symm
    rw[e]at eg;exact ag.ne_own a9 rfl eg.symm
   have c8:=f4.ext O;refine sto (c8.at (i:=7) rfl) (c8.frozen 7) ?_;have a5:GrN (λk=>k=D) ao (ao.setCell ⟨D,7,none⟩ (.slice VA n n)):=GrN.set _ rfl;refine Jd (Qh a5 ?_);refine Zj 5 kr rfl rfl ?_;refine mkn ETm n om (by unfold maxLen;omega) ?_;intro ab TA J a9 _;rw[Ur _ rfl]at a9;refine Jd (Qh (GrN.ext J) ?_);refine Gy (listed':=lst 10 8) kr ?_;refine rest (VA,TA) _ _ ⟨((GrN.ext O).trans a5).trans (GrN.ext J),(c8.set 7 _).ext J,Jk (Ja a8 a5 λg eg e=>?_) J,a9.mono (nL O.size a5.size)⟩ sB;rw[e]at eg;exact c8.ne_own a8 rfl eg.symm
  refine mkn ETm n om (by unfold maxLen;omega) ?_;intro ao TA O af _;rw[Ur _ rfl]at af;refine Jd (Qh (GrN.ext O) ?_);refine Zj 2 kr rfl rfl ?_;refine mkn EVm n om (by unfold maxLen;omega) ?_;intro ab VA J b7 _;rw[Ur _ rfl]at b7;refine Jd (Qh (GrN.ext J) ?_);refine Xu (fuel':=3) [(0,6)] (lst 10 7) kr kr rfl ?_;refine ρn ?_;refine Zq ?_;refine Zj 7 kr rfl rfl ?_;have ag:=(f4.ext O).ext J;refine sto (ag.at (i:=7) rfl) (ag.frozen 7) ?_;have a5:GrN (λk=>k=D) ab (ab.setCell ⟨D,7,none⟩ (.slice VA n n)):=GrN.set _ rfl;refine Jd (Qh a5 ?_);refine Gy (listed':=lst 10 8) kr ?_;refine rest (VA,TA) _ _ ⟨(GrN.ext (O.trans J)).trans a5,ag.set 7 _,Ja (b7.mono O.size) a5 λg eg e=>?_,Ja (Jk af J) a5 λg eg e=>?_⟩ sB
  .rw[e]at eg;exact ag.ne_own b7 rfl eg.symm
  rw[e]at eg;exact ag.ne_own (Jk af J) rfl eg.symm
 rintro⟨VA,TA⟩ ao ⟨dg,an,a8,af⟩;simp only at an a8 af;refine Xu (fuel':=1) [(0,8)] (lst 10 9) kr kr rfl ?_;refine ρn ?_;refine Zq ?_;refine Zj 9 kr rfl rfl ?_;refine sto (an.at (i:=8) rfl) (an.frozen 8) ?_;have b3:GrN (λk=>k=D) ao (ao.setCell ⟨D,8,none⟩ (.slice TA n n)):=GrN.set _ rfl;refine Jd (Qh b3 ?_);refine Jzn kr ?_;obtain⟨ab,bp⟩:∃ ab,ab=ao.setCell ⟨D,8,none⟩ (.slice TA n n):=⟨_,rfl⟩;have f9:Blk ab D 159 [.int .i64 (n:Int),.int .i64 (f:Int),.slice DA f dc,.slice PA perm.length pc,.slice AA ts.length ac,.slice BA n n,.slice RA n rc,.slice VA n n,.slice TA n n,.slice none 0 0]:=by rw[bp];exact an.set 8 _
 rw[<-bp]at b3;rw[show ao.setCell ((⟨D,0,none⟩:Addr).add 8) (.slice (VA,TA).2 n n)=ab from bp.symm];clear bp;have b7:=Ja a8 b3 λg eg e=>by rw[e]at eg;exact an.ne_own a8 rfl eg.symm
 have a9:=Ja af b3 λg eg e=>by rw[e]at eg;exact an.ne_own af rfl eg.symm
 have bf:Ext w9 ab:=b3.old (dg.old bm λk G=>by rw[G];exact b4) λk G=>by rw[G];exact b4
 refine ldR ((aa.ext bf).at (i:=1) rfl) ?_;refine ρ ?_;refine mkn EBks f om (by unfold maxLen;omega) ?_;intro d8 KA bn eb _;rw[Ur _ rfl]at eb;refine ρ ?_;have c5:=f9.ext bn;refine sto (c5.at (i:=9) rfl) (c5.frozen 9) ?_;obtain⟨ax,bo⟩:∃ ax,ax=d8.setCell ⟨D,9,none⟩ (.slice KA f f):=⟨_,rfl⟩;have e5:GrN (λk=>k=D) d8 ax:=by rw[bo];exact GrN.set _ rfl
 have gi:Blk ax D 159 (bCs n f (.slice DA f dc) (.slice PA perm.length pc) (.slice AA ts.length ac) BA n (.slice RA n rc) VA n TA n (.slice KA f f)):=by rw[bo];exact c5.set 9 _
 rw[show d8.setCell ((⟨D,0,none⟩:Addr).add 9) (.slice KA f f)=ax from bo.symm];clear bo;have bh:∀ {t:Nat} {v:Value} {xs:List Value} {b m:Nat},d8.ownsRow b t 1 v m xs->Nat.beq t 159=false->ax.ownsRow b t 1 v m xs:=λho gy=>Ja ho e5 λg eg e=>by rw[e]at eg;exact c5.ne_own ho gy eg.symm
 have ca:Ext w9 ax:=e5.old (bf.trans bn) λk G=>by rw[G];exact b4
 have g4:=bh ((Jk b7 bn).mono bm.size) rfl;have g5:=bh ((Jk a9 bn).mono bm.size) rfl;have g8:=bh (eb.mono bf.size) rfl;have g3:BldW w9 D n (bCs n f (.slice DA f dc) (.slice PA perm.length pc) (.slice AA ts.length ac) BA n (.slice RA n rc) VA n TA n (.slice KA f f)) VA n TA n ax (List.replicate n (.map none)) (List.replicate n (.map none)):=⟨ca,gi,g4,g5⟩;obtain⟨T,hT⟩:∃ T,T=TV n f kf pf R ds (plO perm f):=⟨_,rfl⟩;have f3:∀ c,f<=c->∀ k,T c k<=1:=λc hc k=>by rw[hT];exact Jnn a3.chf c hc k
 have f2:∀ c k,T c k<=4294967296^20:=λc k=>by rw[hT];exact a3.big c k
 have f8:=aa.ext ca;refine ldR (f8.at (i:=3) rfl) ?_;have j7:(Value.slice KA f f)=Value.slice KA f f:=rfl;obtain⟨AR,fd⟩:∃ AR:Nat->Prop,AR=λk=>ARk n f VA n TA n (.slice KA f f) k∨k=b2∨k<w.heap.size:=⟨_,rfl⟩;have d4:∀ k,ARk n f VA n TA n (.slice KA f f) k->AR k:=λk G=>by rw[fd];exact .inl G
 have e7:b2<w9.heap.size:=nM gg.lt (da.trans (ah.trans (c6.trans (bg.trans a1)))).size;have d3:∀(W:World) (va ta ba:List Value),Ext w9 W->W.ownsRow w9.heap.size 213 1 (.slice VA n n) n va->W.ownsRow w9.heap.size 221 1 (.slice TA n n) n ta->W.ownsRow w9.heap.size 72 1 (.slice KA f f) f ba->∀ k,AR k->k<W.heap.size:=λW va ta ba ff hv ht hb k G=>by
  rw[fd]at G;rcases G with(G|G|G)|G|G
  .exact((Jy hv).choose_spec.choose_spec.2.2 k G).2
  .exact((Jy ht).choose_spec.choose_spec.2.2 k G).2
  .exact((Jy hb).choose_spec.choose_spec.2.2 k G).2
  .rw[G];exact nM e7 ff.size
  exact nM G (a2.trans ff).size
 have lV:∀ {W:World} {xs:List Value},W.ownsRow w9.heap.size 213 1 (.slice VA n n) n xs->∀ g,(Value.slice VA n n).ownBlock=some g->w9.heap.size<=g/\g<W.heap.size:=λho=>(Jy ho).choose_spec.choose_spec.2.2;have gj:∀ k,(Value.slice VA n n).ownBlock=some k->AR k:=λk G=>d4 k (.inl G);refine ρ ?_;refine Jo (fun (i:Nat) (va:List Value)=>[(1,.pointer (some ⟨b1,0,none⟩)),(2,.pointer (some ⟨b2,0,none⟩)),(12,.slice BA n n),(15,.int .i64 st),(18,.pointer (some ⟨D,0,none⟩)),(115,.slice PA perm.length pc),(116,.int .i64 (perm.length:Int)),(117,.int .i64 (i:Int))])
  (λi va w'=>i<=perm.length/\BldW w9 D n (bCs n f (.slice DA f dc) (.slice PA perm.length pc) (.slice AA ts.length ac) BA n (.slice RA n rc) VA n TA n (.slice KA f f)) VA n TA n w' va (List.replicate n (.map none)) /\
   w'.ownsRow w9.heap.size 72 1 (.slice KA f f) f (List.replicate f (.slice none 0 0))/\∀ c,c<n->plO perm f c<i->f<=c->DnV AR (T c) w' (va.getD c (.map none))) (λi _=>perm.length-i) 0 _ sB
  ⟨Nat.zero_le _,g3,g8,λc hc h=>om⟩ ?_
 rintro i va ej ⟨hi,a7,bw,dh⟩;have ea:Rd ej 1 PA perm.length (Je (nz perm)):=hP.ext (a2.trans a7.ext);refine ciR (λh=>?_) (λh=>?_)
 .have li:i<perm.length:=by have:=oT h;omega
  clear h;obtain⟨v,hv⟩:∃ v,v=perm.getD i 0:=⟨_,rfl⟩;have dd:=hI.pm.rng v (by rw[hv];exact getD_mem' 0 perm li);have ib:plO perm f v=i:=by rw[hv];exact hI.pm.plPerm li
  refine ixR i ea li ?_;refine ldR (ea.cell (show(Je (nz perm))[i]?=some (.int .i64 (v:Int)) by rw[hv];simp[Je,nz,List.getD,List.getElem?_eq_getElem li])) ?_;refine clR (Qlf (AR:=AR) hF a7 dd.2 (λc hc hp hf=>?_) (λc hc hp hf=>?_) f3 f2 d4 (d3 _ _ _ _ a7.ext a7.va a7.ta bw)) ?_
  .have:=(a3.chf c v hc hp).2;exact dh c hc om hf
  .have h1:=(a3.chf c v hc hp).2;have h2:=hI.pm.plLow hf dd.1 dd.2;omega
  rintro u c9 ⟨rfl,mv,Z,e4,gc⟩;have ew:GrN AR ej c9:=e4.mono λk _ G=>gj k G;have ak:=Ja bw e4 λg eg e=>by
   have h1:=a7.va;rcases h1.2 with⟨h2,_⟩|⟨g1,c1,cu1,h2,_,h3,_⟩
   .rw[h2]at e;simp[Value.ownBlock]at e
   rcases bw.2 with⟨h4,_⟩|⟨g2,c2,cu2,h4,_,h5,_⟩
   .rw[h4]at eg;simp[Value.ownBlock]at eg
   rw[h2]at e;rw[h4]at eg;simp only[Value.ownBlock,Option.some.injEq]at e eg;subst e;subst eg;rw[h3]at h5;injection h5 with h5
   injection h5 with _ h6
   exact absurd h6 (by decide)
  refine ρ ?_;refine Jl (i+1) (va.set v mv) sO ⟨li,Z,ak,λc hc ic hf=>?_⟩ om;have i9:va.length=n:=by have:=a7.va.1;omega
  by_cases e:c=v
  .subst e;rw[getD_set' (.map none) va c c mv om,if_pos rfl,hT,Jyb a3.chf hc hf,<-hT];exact gc
  rw[getD_set' (.map none) va v c mv om,if_neg e];refine(dh c hc ?_ hf).gr ew;rcases Nat.lt_or_ge (plO perm f c) i with h'|h'
  .exact h'
  exact absurd (hI.pm.inj hc dd.2 om) e
 have ih:i=perm.length:=by have:=oF h;omega
 clear h;have am:∀ c,c<n->f<=c->DnV AR (T c) ej (va.getD c (.map none)):=λc hc hf=>dh c hc (by
  have hm:c∈perm:=by
   rcases List.mem_append.1 (hI.pm.omem.2 hc) with h1|h1
   .exact h1
   have:=List.mem_range.1 (List.mem_reverse.1 h1);omega
  obtain⟨j,hj,e⟩:=List.getElem_of_mem hm;have:=hI.pm.plPerm hj;rw[Qd 0 _ hj,e]at this;omega) hf
 have dj:=aa.ext a7.ext;refine ldR (dj.at (i:=1) rfl) ?_;refine ρ ?_;refine Xn (fun (i:Nat) (ta ba:List Value)=>[(1,.pointer (some ⟨b1,0,none⟩)),(2,.pointer (some ⟨b2,0,none⟩)),(12,.slice BA n n),(15,.int .i64 st),(18,.pointer (some ⟨D,0,none⟩)),(125,.int .i64 (f:Int)),(126,.int .i64 (i:Int))])
  (λi ta ba w'=>i<=f/\BldW w9 D n (bCs n f (.slice DA f dc) (.slice PA perm.length pc) (.slice AA ts.length ac) BA n (.slice RA n rc) VA n TA n (.slice KA f f)) VA n TA n w' va ta /\
   w'.ownsRow w9.heap.size 72 1 (.slice KA f f) f ba/\(∀ c,c<n->f<=c->DnV AR (T c) w' (va.getD c (.map none))) /\
   ∀ c,c<f->f-i<=c->DnT AR (T c) w' (ta.getD c (.map none))/\DnB AR (ds.getD c false) w' (ba.getD c (.slice none 0 0)) (BBo n f kf pf R ds (plO perm f) c)) (λi _ _=>f-i) 0 _ _ sB
  ⟨Nat.zero_le _,a7,bw,am,λc hc h=>om⟩ ?_
 clear dh am;rintro i ta ba c9 ⟨hi,Z,ak,am,bz⟩;have c4:=aa.ext Z.ext;refine ciR (λh=>?_) (λh=>?_)
 .have li:i<f:=by have:=oT h;omega
  clear h;obtain⟨v,hv⟩:∃ v,v=f-1-i:=⟨_,rfl⟩;have cj:v<f:=om
  have gt:v<n:=om
  refine ldR (c4.at (i:=1) rfl) ?_;refine ρ ?_;refine Go.Wk.kv 133 (show Value.int .i64 ((f:Int)-1-(i:Int))=.int .i64 (v:Int) by congr 1;omega) ?_;refine cl (Qtw (v:=v) (AR:=AR) hF fx (Rd.ext hD a2) Z ak cj (by rw[(a3.lastC cj).2];omega) (λx hx=>?_) (a3.rlt cj) (λc hc hp hf=>am c hc hf) (λc hc hp hf=>?_) f3 f2 d4 (d3 _ _ _ _ Z.ext Z.va Z.ta ak)) ?_
  .have h1:=bj v gt x hx;refine h1.2 _ (getD_mem' V0 x ?_);rw[h1.1.1,(a3.lastC cj).2];omega
  .have h1:=(a3.chf c v hc hp).2;have h2:plO perm f c<plO perm f v:=h1;rw[hI.pm.plFree hf,hI.pm.plFree cj]at h2;exact(bz c hf om).1
  rintro u ei ⟨rfl,mv,lv,b5,cr,co,ga,gb⟩;have eB:Vs (ds.getD v false) (λx=>wtL T x (chK kf pf v n)) ((bk (kf v ||| 2^v) 32).length-1) (R v)=BBo n f kf pf R ds (plO perm f) v:=by rw[hT];rfl
  rw[eB]at ga gb;have ia:ta.length=n:=by have:=Z.ta.1;omega
  have ij:ba.length=f:=by have:=ak.1;omega
  refine ρ ?_;refine Qt (i+1) (ta.set v mv) (ba.set v lv) sO ⟨li,b5,cr,λc hc hf=>(am c hc hf).gr co,λc hc j4=>?_⟩ om;by_cases e:c=v
  .subst e;rw[getD_set' (.map none) ta c c mv om,if_pos rfl,getD_set' (.slice none 0 0) ba c c lv om,if_pos rfl];refine⟨?_,gb⟩;rw[hT,Jdb a3.chf cp hc];exact ga
  rw[getD_set' (.map none) ta v c mv om,if_neg e,getD_set' (.slice none 0 0) ba v c lv om,if_neg e];have:=bz c hc om;exact⟨this.1.gr co,this.2.gr co⟩
 have j0:i=f:=by have:=oF h;omega
 clear h;have er:∀ c,c<n->pf c = -1->f<=c->∀ k,0<T c k->k=[]:=λc hc hp hf k G=>by
  rw[hT,Jyb a3.chf hc hf,redT_pos]at G;obtain⟨x,_,_,e⟩:=G;have h1:∀ u,(kf c).testBit u=false:=by
   rcases a3.par hc with⟨_,h1⟩|⟨p,h1,_⟩
   .exact h1
   rw[h1]at hp;omega
  have h2:Za kf c=[]:=by
   unfold Za Xj;refine List.filter_eq_nil_iff.2 λu _ hu=>?_;rw[h1]at hu;cases hu
  rw[h2]at e;exact e.symm
 have cw:∀ c,c<f->DnT AR (T c) c9 (ta.getD c (.map none))/\DnB AR (ds.getD c false) c9 (ba.getD c (.slice none 0 0)) (BBo n f kf pf R ds (plO perm f) c):=λc hc=>bz c hc om;clear bz;refine clR (Qdr (AR:=AR) hF Z (Xwp (hA.ext a2) g0 om λp hp=>(fc p hp).ext a2) (λc hc=>?_) (λc hc hf=>am c hc hf) (λc hc hf=>(cw c hf).1) er f3 f2) ?_
 .rcases a3.par hc with⟨h1,_⟩|⟨p,h1,_⟩
  .exact .inl h1
  exact .inr ⟨p,h1⟩
 rintro u ei ⟨ep,h7,az⟩;have ey:b2<c9.heap.size:=nM e7 Z.ext.size;obtain⟨tot,cm⟩:∃ tot,tot=Zr n pf T (ts.map (·.2)):=⟨_,rfl⟩
 rw[<-cm]at ep;rw[hT]at cm;obtain⟨dn,d9,rfl,ck⟩:=Jhr ep;have fh:NatX (λk=>k=b2∨k<w.heap.size) ei (.slice dn (Jq tot).length d9) tot:=h7.x ep λk G=>by
  rcases G with G|G
  .rw[G];exact ey
  exact nM G (a2.trans Z.ext).size
 have b5:=Z.ext' az;have cr:=Jk ak az;refine ρ ?_;refine Zb (fun (y:Option Addr×List Value)=>[(1,.pointer (some ⟨b1,0,none⟩)),(2,.pointer (some ⟨b2,0,none⟩)),(12,.slice BA n n),(15,.int .i64 st),(18,.pointer (some ⟨D,0,none⟩)),(23,.slice dn (Jq tot).length d9)])
  (λy w'=>Ext w9 w'/\Blk w' D 159 (bCs n f (.slice DA f dc) (.slice PA perm.length pc) (.slice AA ts.length ac) BA n (.slice RA n rc) VA n TA n (.slice y.1 f f))/\Rd w' 1 y.1 f y.2/\NatX (λk=>k=b2∨k<w.heap.size) w' (.slice dn (Jq tot).length d9) tot /\
   ∀ c,c<f->DnB AR (ds.getD c false) w' (y.2.getD c (.slice none 0 0)) (if tot=0 then[] else BBo n f kf pf R ds (plO perm f) c)) ?_ ?_
 .refine ci (λh=>?_) (λh=>?_)
  .have h0:tot=0:=by
    have:=Zv h;rcases Nat.eq_zero_or_pos tot with h'|h'
    .exact h'
    have:=ck.2 h';omega
   clear h;have di:=c4.ext az;refine ldR (di.at (i:=1) rfl) ?_;refine ρ ?_;refine mkn EBks f om (by unfold maxLen;omega) ?_;intro av dq dw cq _;rw[Ur _ rfl]at cq;refine ρ ?_;have a6:=b5.blk.ext dw;refine sto (a6.at (i:=9) rfl) (a6.frozen 9) ?_;have e3:GrN (λk=>k=D) av (av.setCell ⟨D,9,none⟩ (.slice dq f f)):=GrN.set _ rfl;have eu:Ext ei (av.setCell ⟨D,9,none⟩ (.slice dq f f))∨True:=.inr trivial;clear eu;refine ρ ?_;refine Jf (dq,List.replicate f (.slice none 0 0)) sB ⟨e3.old ((Z.ext.trans az).trans dw) λk G=>by rw[G];exact b4,a6.set 9 _,Rd.own (Ja cq e3 λg eg e=>by rw[e]at eg;exact a6.ne_own cq rfl eg.symm),?_,λc hc=>?_⟩
   .have e0:(Jq tot).length=0:=by rw[h0,limbs_0];rfl
    rw[e0,h0];exact⟨⟨dn,d9,by rw[limbs_0];rfl,by rw[limbs_0];simp,by rw[limbs_0];simp,by rw[limbs_0];exact Rd.nil⟩,λh=>absurd rfl h⟩
   rw[if_pos h0];have:(List.replicate f (Value.slice none 0 0)).getD c (.slice none 0 0)=.slice none 0 0:=by simp[List.getD,hc]
   rw[this];exact DnB.nil _ _ _
  have h0:¬ tot=0:=λe=>by
   have h1:=Xo h;have h2:¬ 0<(Jq tot).length:=λh'=>by have:=ck.1 h';omega
   omega
  clear h;refine ρ ?_;refine Jf (KA,ba) sB ⟨b5.ext,b5.blk,Rd.own cr,fh,λc hc=>?_⟩;rw[if_neg h0];exact(cw c hc).2.ext az
 rintro⟨dq,j8⟩ av ⟨el,a6,e9,eo,cx⟩;simp only at a6 e9 cx;have ad:Ext av av.drew:=(Ext.refl av).drew;have ae:=el.trans ad;have ef:=aa.ext ae;have i2:=a6.ext ad;have e8:¬ b1=b2:=λe=>by have:=fa.lt;omega
 have ez:¬ D=b2:=λe=>by omega
 have ee:=((gg.ext (da.trans (ah.trans (c6.trans (bg.trans a1))))).ext ae);refine ρ ?_;refine drM (λk=>k=b2) ?_;refine Xu (fuel':=0) [(0,0),(0,1),(0,2),(0,3),(0,4),(0,5),(0,6),(0,7),(0,8),(0,10),(1,9),(1,11),(0,12),(0,13)] (lst 14 14) kr kr rfl ?_;refine ρn ?_;refine nld (Jr (ef.at (i:=2) rfl) e8) ?_;refine ρn ?_;refine nld (Jr (ef.at (i:=1) rfl) e8) ?_;refine ρn ?_;refine nslh f ?_ cp;refine ρn ?_;refine nld (Jr (i2.at (i:=9) rfl) ez) ?_;refine ρn ?_;have i1:Rd av.drew 3 BA f (Qo f (Qp kf pf)):=by
  have h1:=(hF.bags.ext ae).take cp;rw[Xjd (sz:=3) (g:=Qp kf pf) (λ_ _=>rfl) cp]at h1;exact h1
 refine nop ?_;refine cl (Xwr (M:=λk=>k=b2∨k<w.heap.size) (hTB.ext (a2.trans ae)) fx om (Rd.ext hD (a2.trans ae)) i1 (e9.ext ad) (λu hu=>((cx u hu).old λk G=>.inl (by rw[fd];exact .inr G)).ext ad) (eo.ext ad) (λk G=>by
  rcases G with G|G
  .rw[G];exact ee.lt
  exact nM G (a2.trans ae).size) (λu hu b hb=>?_) (λu hu=>?_)) ?_
 .split at hb
  .cases hb
  obtain⟨y,hy,e1,_⟩:=entL_ne.1 ((Jdf a3 hu).con b hb).2;have h1:=(bj u om y hy).1.2;rw[<-e1];exact⟨by have:=h1.1;rw[List.length_take];omega,λz hz=>h1.2 z (List.mem_of_mem_take hz)⟩
 .split
  .exact List.Pairwise.nil
  exact(Jdf a3 hu).lt
 rintro xi gl ⟨g7,hw,cc⟩;obtain⟨xD,il,xB,ip,xK,io,xP,im,xt,_,_,rfl,_,_,_,_,_,_,⟨xT,ik,rfl,_⟩,_⟩:=hw.ex;refine ρ ?_;refine Qj (GrN.ext cc) ?_;refine ρn ?_;refine nop ?_;refine stW (ee.ext cc) ?_;intro gk f7 fr i8;have bi:GrN (λk=>k=b2) gl gk:=GrN.by fr λk G=>by injection G with G;exact G.symm
 refine ρ ?_;refine Qj bi ?_;refine ρn ?_;refine Zq ?_;refine Jzn kr ?_;refine ρ ?_;refine Qzv f7 ⟨bi.old ((a2.trans ae).trans cc) λk G=>by rw[G];exact nL en.size hh,_,st,kf,pf,R,rfl,a3,?_⟩;rw[<-cm];exact(g7.gr (bi.mono λk _ G=>.inl G)).mono λk _ G=>.inr G
end Go.Proofs.YtgobkbeokaaplaaGreatDoor
namespace Go.Wk
open Go.RowKit Maps
variable {d n ty:Nat}
theorem dmlo{P:Program}{al:AL}{w:World}{Q:Exit->Act->World->Prop}{ops:Array Oper}{drest:List (Nat×Oper)}{pos:String}{aft:Array Edge}{tt:TT}[hT:Tab P tt]{t k e b m:Nat}{kd:TK}{f:Lit->Option Value}{x y:Operand}{key z:Value}{kl:Lit}(K:Keyed P k)(hM:MapS P k w b m f)(hz:Qr P e=some z)(hkey:keyOf P k key=some kl)(kk:WD P n ops Q drest ((d,.tuple #[(f kl).getD z,.bool (f kl).isSome])::al) w)(ht:tk tt t=some kd:=by rfl)(hk:kd.desc=.map k e:=by rfl)(hx:ev al x=some (.map (some b)):=by rfl)(hy:ev al y=some key:=by rfl)(hd:Nat.blt d n=true:=by rfl):
  WD P n ops Q ((0,⟨some d,.lookup t x y true,ty,pos,aft,none⟩)::drest) al w :=
 dy (λw' j a i=>by
  have:=((hM.ext j).look K (Yw hT.ok ht hk rfl) (Jfs hz w') hkey).1;simp[execOp,i.ev hx,i.ev hy,this]) hd kk
end Go.Wk
namespace Go.Proofs.YtgobkbeokaaplaaGreatDoor
open Go.RowKit Pl Go.Wk
attribute [local irreducible] WC WL QX WD WDB WP WN WG
variable {B0 c v:Nat}{A:Option Addr}{k y:Row}
def trK(bs:List BkT)(k:Row): Tr:=match bs.find? λb=>decide (b.1=k) with
 | some b=>b.2
 | none=>.nil
theorem Jdx(bs:List BkT)(k:Row): (trK bs k).toL=entK bs k:=by
 unfold trK entK;cases bs.find? λb=>decide (b.1=k)<;>rfl
theorem Qzc: ∀ {bs:List BkT} {k:Row} {i:Nat},Ze bs k=some i->∃ b,bs[i]?=some b/\trK bs k=b.2/\b∈bs
 | [],_,_,h=>by simp[Ze]at h
 | b::bs,k,i,h=>by
  unfold Ze at h;rw[List.findIdx?_cons]at h;by_cases e:b.1=k
  .grind [Option.some.injEq,trK,List.mem_cons_self]
  simp only[e,decide_false]at h;obtain⟨j,hj,rfl⟩:=Option.map_eq_some_iff.1 h;obtain⟨b',h1,h2,h3⟩:=Qzc (bs:=bs) (k:=k) hj;grind [trK,List.mem_cons_of_mem]
theorem Jlm{bs:List BkT}(h:Ze bs k=none): trK bs k=.nil:=by grind [Ze,List.findIdx?_eq_none_iff,List.find?_eq_none.2,trK]
theorem Qvn{s u:Nat}(h:s<2^u): ∀ k,u<=k->bk s k=bk s u
 | 0,hk=>by(have:u=0:=by omega);(rw[this])
 | k+1,hk=>by
  by_cases e:u=k+1
  .rw[e]
  rw[Gg,Qvn h k om];grind [Nat.testBit_lt_two_pow,Nat.lt_of_lt_of_le,Nat.pow_le_pow_right]
theorem Jvt(v:V)(w:World): (Instr.buildSlice 59 1 #[(0,v.val)]).run Tryz.prog w=.ok (.slice (some ⟨w.heap.size,0,none⟩) 1 1) (w.alloc (.cells v.cells.toArray 147)):=kr
section
variable {w:World} {x:Value} {f:Nat} {ds:List Bool} {kf:Nat->Nat} {pf:Nat->Int} {BB:Nat->List BkT} {tot:Nat}
theorem Jlc(h:IxV w x f ds kf pf BB tot): Ret Tryz.prog 65 [x] w λu w'=>u=.int .i64 (f:Int)/\Ext w w':=by
 obtain⟨DA,dc,BA,cb,KA,ck,PA,cp,tv,O,J,rfl,Z,a1,hD,hB,hK,hP,D,hv⟩:=h.ex;obtain⟨TA,tc,rfl,_⟩:=id D;refine enE Tryz.func65 Tryz.ntmps65 ?_;refine bxR ?_;intro w1 b j hb G;refine ldR (G.at (i:=0) rfl) ?_;refine ρ ?_;exact Jj ⟨rfl,j⟩
theorem Qxs(h:IxV w x f ds kf pf BB tot)(hv:v<f): Ret Tryz.prog 79 [x,.int .i64 (v:Int)] w λu w'=>u=.bool true/\Ext w w':=by
 obtain⟨DA,dc,BA,cb,KA,ck,PA,cp,tv,O,J,rfl,a1,a2,hD,hB,hK,hP,D,Z⟩:=h.ex;obtain⟨TA,tc,rfl,_⟩:=id D;refine enE Tryz.func79 Tryz.ntmps79 ?_;refine bxR ?_;intro w1 b j hb G;refine ktR 7 ?_ ?_
 .grind
 refine ldR (G.at (i:=0) rfl) ?_;refine ρ ?_;refine Jj ⟨?_,j⟩;grind
theorem Jhz(h:IxV w x f ds kf pf BB tot)(hn:Nb tot): Ret Tryz.prog 29 [x] w λu w'=>NatV w' u tot/\Fresh w u/\Ext w w':=by
 obtain⟨DA,dc,BA,cb,KA,ck,PA,cp,tv,a1,Z,rfl,a2,a3,hD,hB,hK,hP,D,hv⟩:=h.ex;obtain⟨TA,tc,rfl,_⟩:=id D;refine enE Tryz.func29 Tryz.ntmps29 ?_;refine bxR ?_;intro w1 b j hb O;refine ldR (O.at (i:=4) rfl) ?_;refine clR (Jwn (D.ext j) hn.len) ?_;rintro u w2 ⟨h2,J,G⟩;refine ρ ?_;exact Jj ⟨h2,λad m c e=>nL j.size (J ad m c e),j.trans G⟩
theorem Jld(h:IxV w x f ds kf pf BB tot): Ret Tryz.prog 147 [x] w λu w'=>(∃ A c,u=.slice A f c/\f<=c/\Rd w' 3 A f (Qo f (Qp kf pf))/\∀ ad,A=some ad->w.heap.size<=ad.block)/\Ext w w':=by
 obtain⟨DA,dc,BA,cb,KA,ck,PA,cp,tv,a3,a2,rfl,a4,a5,hD,hB,hK,hP,G,hv⟩:=h.ex;obtain⟨TA,tc,rfl,_⟩:=id G;have f32:=h.f32;refine enE Tryz.func147 Tryz.ntmps147 ?_;refine bxR ?_;intro w1 b j hb a1;refine ldR (a1.at (i:=1) rfl) ?_;refine clR (Qwr (hB.ext j) (Qzq _ _ _) om) ?_;rintro _ w2 ⟨⟨A2,c2,rfl,O,Z,J⟩,D⟩;refine ρ ?_;exact Jj ⟨⟨A2,c2,rfl,O,Z,λad e=>nL j.size (J ad e)⟩,j.trans D⟩
theorem zIntv: Qr Tryz.prog 3=some (.int .i64 0):=kr
theorem Xkb(w:World): (Instr.build 76 #[]).run Tryz.prog w=.ok (.agg #[.bool false,.pointer none]) w:=kr
theorem Jcb{w0:World}(hTB:TB B0 w)(h0:Ext w0 w)(h:IxV w0 x f ds kf pf BB tot)(hv:v<f)(hk:RdR w A k)(hfit:FitR k):
  Ret Tryz.prog 117 [x,.int .i64 (v:Int),.slice A k.length c] w λu w'=>∃ d p,u=.tuple #[.agg #[.bool d,.pointer p],.bool (Ze (BB v) k).isSome]/\TrV (λ_=>False) w0 (trK (BB v) k) (.pointer p)/\((Ze (BB v) k).isSome=true->d=ds.getD v false)/\Ext w w':=by
 obtain⟨DA,dc,BA,cb,KA,ck,PA,cp,tv,aa,am,rfl,b8,b9,hD,hB,hK,hP,aq,ap⟩:=id h.ex;obtain⟨TA,tc,rfl,_⟩:=id aq;obtain⟨ay,mb,m,fm,bc,hm,⟨hM,_⟩,ax⟩:=ap v hv;have au:am[v]?=some (.map (some mb)):=by grind
 have ae:aa[v]?=some (aa.getD v (.slice none 0 0)):=by
  have:=hK.len;grind
 refine enE Tryz.func117 Tryz.ntmps117 ?_;refine bxR ?_;intro w1 b a2 hb ai;refine Jv Vn ?_;intro w2 b6 a1 af az;refine Qk (ai.ext a1) ?_;refine clR (Qxs (h.ext (h0.trans (a2.trans a1))) hv) ?_;rintro _ w3 ⟨rfl,a7⟩;have ad:=(a2.trans a1).trans a7;have a5:Ext w3 w3.drew:=(Ext.refl w3).drew;have G:=ad.trans a5;have a3:=h0.trans G;have aj:=((ai.ext a1).ext a7).ext a5;refine drR (scq 13 [6]) ?_;refine Jz (aj.at (i:=3) rfl) ?_;refine Jb v (hP.ext a3) hv ?_;refine Jz ((hP.ext a3).cell au) ?_;refine Jh (Jzt (r:=k) (hTB.ext G) (hk.ext G) (λu hu=>(hfit.2 u hu).1) (by have:=hfit.len;omega) (by have:=hfit.1;omega)) ?_;rintro _ w4 ⟨rfl,Z⟩;refine⟨Z,?_⟩;have J:=G.trans Z;have D:=h0.trans J;refine ρd ?_;refine dmlo KS (hM.ext D) zIntv (Gu hfit) ?_;rw[ax];have a4:=((az.ext a7).ext a5).ext Z;cases hix:Ze (BB v) k with
 | none=>
  refine ρd ?_;refine Zz (Xkb _) ?_;refine Zk a4 ?_;intro w5 O av a6;refine ρ ?_;refine Zn O ⟨false,none,rfl,?_,(λh=>by cases h),a6 w J (nL a2.size af)⟩;rw[Jlm hix];rfl
 | some i=>
  obtain⟨bt,a9,ar,ba⟩:=Qzc hix;obtain⟨ps,GA,gc,ak,b2,b7,b3,ah,bb,ag⟩:=ay;have li:i<ps.length:=by have:=(List.getElem?_eq_some_iff.1 a9).1;rw[ak,List.length_map]at this;exact this
  obtain⟨z,hz⟩:∃ z,z=ps[i]:=⟨_,rfl⟩;have an:z∈ps:=by rw[hz];exact List.getElem_mem li
  have ao:z.2=bt:=by
   rw[ak,List.getElem?_map,List.getElem?_eq_getElem li,<-hz]at a9;simpa using a9
  obtain⟨b5,kv,zq,b1,b4,ab⟩:=ag z an;obtain⟨zp,rfl⟩:=ab.ptr;have a8:∀ j u,([.bool (ds.getD v false),.pointer zp]:List Value)[j]?=some u->w4.cell? (((adr GA (i*3)).add 1).add j)=some u:=λj u hu=>by
   have hj:j<2:=(List.getElem?_eq_some_iff.1 hu).1;rw[Xh,Xh,Nat.add_assoc];refine(ah.ext D).cell ?_;rw[Iu (p:=z) (λp hp=>(ag p hp).1) (by rw[hz];exact gE li) om,b1,Nat.add_comm];exact hu
  rw[b2]at ae;refine ρd ?_;refine ldR ((aj.ext Z).at (i:=2) rfl) ?_;refine ixR v (hK.ext D) hv ?_;refine ldR ((hK.ext D).cell ae) ?_;refine Qu 3 i (ah.ext D) li ?_;refine Jt (cs:=[.bool (ds.getD v false),.pointer zp]) a8 ?_;refine Zk a4 ?_;intro w5 O av a6;have ac:=a6 w J (nL a2.size af);refine ρ ?_;refine Zn O ⟨_,zp,rfl,?_,λ_=>rfl,ac⟩;rw[ar,<-ao];exact ab
theorem Jlb(h:IxV w x f ds kf pf BB tot)(hv:v<f)(hy:RdR w A y)(hyc:y.length<=c)(hyl:y.length<=32)(hk:kf v<2^y.length):
  Ret Tryz.prog 118 [x,.int .i64 (v:Int),.slice A y.length c] w λu w'=>RowX w' (λk=>k<w.heap.size) u (pmR (bk (kf v) 32) y)/\Ext w w':=by
 obtain⟨DA,dc,BA,cb,KA,ck,PA,cp,tv,ar,aq,rfl,ay,az,hD,hB,hK,hP,ag,au⟩:=id h.ex;obtain⟨TA,tc,rfl,_⟩:=id ag;have a1:kf v<4294967296:=nM hk (Jxv hyl);have ap:Jp (kf v)<=y.length:=Jqn hk;have D:∀ {w'} (hx:Ext w w') j u,(Qp kf pf v)[j]?=some u->w'.cell? ((adr BA (v*3)).add j)=some u:=λhx j u hu=>by
  have hj:j<3:=by grind [Nat.lt_or_ge,List.getElem?_eq_none,Qp]
  rw[Xh];exact(hB.ext hx).cell ((Jqs (sz:=3) (λ_ _=>rfl) hv hj).trans hu)
 refine enE Tryz.func118 Tryz.ntmps118 ?_;refine bxR ?_;intro w1 b a8 hb ac;refine Qk ac ?_;refine clR (Qxs (h.ext a8) hv) ?_;rintro _ w2 ⟨rfl,a7⟩;have J:=a8.trans a7;have a5:=ac.ext a7;refine ldR (a5.at (i:=1) rfl) ?_;refine Qu 3 v (hB.ext J) hv ?_;refine ldR (D J 1 _ rfl) ?_;refine clR (Qxn (kf v) a1 w2) ?_;rintro _ af ⟨rfl,e2⟩;rw[e2];clear e2 af;refine cfR ?_ ?_
 .grind
 refine Qv Jqx ?_;intro w3 b3 a4 am ao;have a2:=J.trans a4;have ab:=a5.ext a4;refine ldR (ab.at (i:=1) rfl) ?_;refine Qu 3 v (hB.ext a2) hv ?_;refine ldR (D a2 1 _ rfl) ?_;refine clR (Qxn (kf v) a1 w3) ?_;rintro _ ae ⟨rfl,e3⟩;rw[e3];clear e3 ae;refine ρ ?_;refine Jo (fun (u:Nat) (vk:Value)=>[(1,.int .i64 (v:Int)),(2,.slice A y.length c),(3,.pointer (some ⟨b,0,none⟩)),(7,vk),(32,.int .i64 (Jp (kf v):Int)),(33,.int .i64 (u:Int))])
  (λu vk w'=>u<=Jp (kf v)/\Ext w2 w'/\w'.ownsRow w2.heap.size 147 3 vk (bk (kf v) u).length (Js (pmR (bk (kf v) u) y))) (λu _=>Jp (kf v)-u) 0 (.slice (some ⟨b3,0,none⟩) 0 0) sB
  ⟨Nat.zero_le _,a4,ao.own (n:=0) am rfl (Nat.zero_le _)⟩ ?_
 rintro u vk w4 ⟨hu,G,Z⟩;have O:=J.trans G;have aa:=a5.ext G;refine ciR (λh=>?_) (λh=>?_)
 .have lu:u<Jp (kf v):=by have:=oT h;omega
  clear h;refine ldR (aa.at (i:=1) rfl) ?_;refine Qu 3 v (hB.ext O) hv ?_;refine ldR (D O 1 _ rfl) ?_;refine ρ ?_;refine Iv (s:=kf v) (v:=u) om ?_;refine ρ ?_;rw[Gh a1];refine ci (λh=>?_) (λh=>?_)
  .have a6:=hy.ext O;refine Qu 3 u a6 om ?_;refine Jt (cs:=(y.getD u V0).cells) (λj u' a9=>RdR.cell a6 om a9) ?_;refine Qv (Jvt (y.getD u V0)) ?_;intro w5 b5 a3 b6 an;obtain⟨A3,c3,rfl,b1,ai⟩:=Jy Z;have b2:=Yo (kf v) u;refine ρ ?_;refine apb (m':=1) (news:=(y.getD u V0).cells) EV (Jk Z a3) (an.rd (n:=1) rfl) (V.one _) (by unfold maxLen;omega) om (G.trans a3).size ?_;intro v6 w6 av ah ax;have e:bk (kf v) (u+1)=bk (kf v) u++[u]:=by rw[Gg,h];simp
   refine ρ ?_;refine Jl (u+1) v6 sO ⟨lu,Ql (G.trans a3) ah (λg eg=>(ai g eg).1),?_⟩ om;grind [pmR,bk,kf,V0,List.length_append,List.length_singleton,rowC_app',Js]
  have e:bk (kf v) (u+1)=bk (kf v) u:=by rw[Gg,h];simp
  refine ρ ?_;refine Jl (u+1) vk sO ⟨lu,G,by rw[e];exact Z⟩ om
 have a9:u=Jp (kf v):=by have:=oF h;omega
 clear h;have e:bk (kf v) u=bk (kf v) 32:=by grind [Qvn,Jhq]
 rw[e]at Z;obtain⟨A2,c2,rfl,ak,aj⟩:=Jy Z;have b4:=Yo (kf v) 32;refine ρ ?_;refine Jj ⟨⟨A2,c2,by rw[Xw],by rw[Xw];exact ak,by rw[Xw];omega,by unfold RdR;rw[Xw];exact Rd.own Z,λ_ ad e=>?_⟩,O⟩;have:=(aj ad.block (by rw[e];simp[Value.ownBlock])).1;have:=J.size;omega
end
end Go.Proofs.YtgobkbeokaaplaaGreatDoor
namespace Go.Wk
open Go.RowKit
open Go.Maps (Keyed)
variable {f:Lit->Option Value}{b k m r:Nat}{x:Operand}
def RgS(P:Program)(k:TypeId)(w:World)(b r n:Nat)(f:Lit->Option Value)(left:Lit->Bool)(cnt:Nat): Prop :=
 ∃ D:DV,w.ranges P k RT b r n D left cnt/\(∀ kl,Maps.has D kl=(f kl).isSome)/\∀ kl zd,D.atKey kl zd=(match f kl with|some v=>.held v|none=>zd)
section
variable {P:Program} {k:TypeId} {w w':World} {b r n cnt:Nat} {f:Lit->Option Value} {left:Lit->Bool}
theorem RgS.gr{N:Nat->Prop}(h:RgS P k w b r n f left cnt)(hg:GrN N w w')(hb:¬ N b)(hr:¬ N r): RgS P k w' b r n f left cnt:=by
 obtain⟨D,O,h2⟩:=h;have J:=O.owns.lt;have G:=O.lt;obtain⟨es,j,i,u,c0,e1,F,hs,Z,e2,rest⟩:=O;exact⟨D,⟨es,j,i,u,c0,(hg.block b J hb).trans e1,F,hs,Z,(hg.block r G hr).trans e2,rest⟩,h2⟩
theorem RgS.ext(h:RgS P k w b r n f left cnt)(hx:Ext w w'): RgS P k w' b r n f left cnt:=h.gr (N:=λ_=>False) (GrN.ext hx) (λe=>e) (λe=>e)
theorem RgS.lt(h:RgS P k w b r n f left cnt): r<w.heap.size:=by obtain⟨D,i,_⟩:=h;exact i.lt
end
section
variable {P:Program} {n:Nat} {al:AL} {w:World} {Q:Exit->Act->World->Prop} {ops:Array Oper} {rest:List Oper}
variable {d ty:Nat} {pos:String} {aft:Array Edge} {tt:TT}
theorem rngm[hT:Tab P tt]{t e:Nat}{kd:TK}(K:Keyed P k)(hM:MapS P k w b m f)(kk:∀ w1 r cnt,Ext w w1->w.heap.size<=r->RgS P k w1 b r m f (λkl=>(f kl).isSome) cnt->WL P n ops Q rest ((d,.pointer (some ⟨r,0,none⟩))::al) w1)(ht:tk tt t=some kd:=by rfl)(hk:kd.desc=.map k e:=by rfl)(hx:ev al x=some (.map (some b)):=by rfl)(hd:Nat.blt d n=true:=by rfl):
  WL P n ops Q (⟨some d,.range t x,ty,pos,aft,none⟩::rest) al w:=by
 obtain⟨D,h1,J,Z⟩:=hM;obtain⟨w',j,G,u,_⟩:=h1.range K (Yw hT.ok ht hk rfl);have eh:Maps.has D=λkl=>(f kl).isSome:=funext J;rw[eh]at G;refine wop hd (λa O=>?_) (kk w' w.heap.size _ ⟨u.os,u.tape,u.output,u.size,λi hi=>u.block i hi (by simp)⟩ (nR _) ⟨D,G,J,Z⟩);simp[execOp,O.ev hx,j]
theorem nxtm{cnt:Nat}{left:Lit->Bool}(K:Keyed P k)(h:RgS P k w b r m f left cnt)(kd:(∀ kl,left kl=false)->WL P n ops Q rest ((d,.tuple #[.bool false])::al) w)(km:∀(key v:Value) (kl:Lit) (w1:World) (cnt':Nat),keyOf P k key=some kl->left kl=true->f kl=some v->RgS P k w1 b r m f (λz=>left z && !z.sameKey kl) cnt'->cnt'<cnt->GrN (λi=>i=r) w w1 ->
  (Instr.entry (.pointer (some ⟨r,0,none⟩))).run P w1=.ok (.tuple #[key,v]) w1->WL P n ops Q rest ((d,.tuple #[.bool true,key,v])::al) w1)(hx:ev al x=some (.pointer (some ⟨r,0,none⟩)):=by rfl)(hd:Nat.blt d n=true:=by rfl): WL P n ops Q (⟨some d,.next x false,ty,pos,aft,none⟩::rest) al w:=by
 obtain⟨D,h1,h2,O⟩:=h;rcases h1.next K ty with⟨h0,hl,j⟩|⟨key,v,kl,y,w',cnt',hkey,hlk,hv,hat,j,hrg,hlt,hgr,hsz,hen⟩
 .exact wop hd (λa J=>by simp[execOp,J.ev hx,j]) (kd hl)
 have Z:y=(.held v,[]):=by simpa [RT] using hv.symm
 have hf:f kl=some v:=by
  have G:=hat (.map []);rw[O,Z]at G;cases hfk:f kl with
  | none=>rw[hfk]at G;cases G
  | some u=>rw[hfk]at G;injection G with G;rw[G]
 exact wop hd (λa J=>by simp[execOp,J.ev hx,j]) (km key v kl w' cnt' hkey hlk hf ⟨D,hrg,h2,O⟩ hlt (GrN.by hgr λi hi=>by injection hi with hi;exact hi.symm) hen)
theorem entm{key v:Value}(hen:(Instr.entry (.pointer (some ⟨r,0,none⟩))).run P w=.ok (.tuple #[key,v]) w)(kk:WL P n ops Q rest ((d,.tuple #[key,v])::al) w)(hx:ev al x=some (.pointer (some ⟨r,0,none⟩)):=by rfl)(hd:Nat.blt d n=true:=by rfl): WL P n ops Q (⟨some d,.entry x,ty,pos,aft,none⟩::rest) al w :=
 wop hd (λa i=>by simp[execOp,i.ev hx,hen]) kk
end
end Go.Wk
namespace Go.Proofs.YtgobkbeokaaplaaGreatDoor
namespace Pl
variable {m n v:Nat}{x y:Row}
section
variable {α:Type} {X:AX α}
def AX.Gp(X:AX α)(y:List α): Prop:=∀ v,v<y.length->y.getD v X.d0∈(X.E v (X.key v (y.take v))).map (·.1)
theorem AX.Gp.nil: X.Gp []:=λv h=>by simp at h
theorem AX.Gp.snoc{y:List α}(h:X.Gp y){a:α}(ha:a∈(X.E y.length (X.key y.length y)).map (·.1)): X.Gp (y++[a]):=λv i=>by
 rw[List.length_append,List.length_singleton]at i;by_cases e:v=y.length
 .grind
 rw[Jvd om,List.take_append_of_le_length om];exact h v om
theorem getD_take(d0:α){y:List α}(h:v<m): (y.take m).getD v d0=y.getD v d0:=by simp[List.getD,h]
theorem AX.Gp.pre{y:List α}(h:X.Gp y)(m:Nat): X.Gp (y.take m):=λv i=>by
 rw[List.length_take]at i;rw[getD_take X.d0 om,List.take_take,Nat.min_eq_left om];exact h v om
theorem Jsk(d0:α){y:List α}(h:y.length=n+1): y=y.take n++[y.getD n d0]:=by
 have e:y.getD n d0=y[n]:=by grind
 rw[e,<-List.take_succ_eq_append_getElem,List.take_of_length_le om]
theorem Qdt{l:List (α×Nat)}{p:α×Nat}(h:p∈l): p.2<=tot l:=by
 induction l with
 | nil=>cases h
 | cons q l ih=>
  grind [tot,List.mem_cons.1]
theorem AX.Ok.pend_snoc(h:X.Ok){y:List α}(hm:y.length<X.F){a:α}(ha:a∈(X.E y.length (X.key y.length y)).map (·.1)): X.pend (y.length+1) (y++[a])<=X.pend y.length y:=by
 obtain⟨p,hp,rfl⟩:=List.mem_map.1 ha;rw[h.pend_next hm hp,h.pend_split hm];exact nO _ (Qdt hp)
theorem AX.Ok.pend_le(h:X.Ok): ∀(n:Nat) (y:List α),y.length=n->n<=X.F->X.Gp y->X.pend n y<=X.pend 0 []
 | 0,y,e,_,_=>by grind
 | n+1,y,e,hF,hg=>by
  have h1:=Jsk X.d0 e;have hl:(y.take n).length=n:=by grind
  have h2:=h.pend_le n (y.take n) hl om (hg.pre n);have h3:=h.pend_snoc (y:=y.take n) (a:=y.getD n X.d0) om (by rw[hl];exact hg n om);grind
theorem AX.Ok.others_le(h:X.Ok){y:List α}(hm:y.length<X.F)(hp:0<X.pend y.length y): 0<X.others y.length y/\X.others y.length y<=X.pend y.length y:=by
 rw[h.pend_split hm]at hp ⊢;have j:=Nat.pos_of_mul_pos_right hp;have i:=Nat.pos_of_mul_pos_left hp;refine⟨by grind,?_⟩;have:0<X.T y.length y:=by grind
 calc X.others y.length y=1*X.others y.length y:=(Nat.one_mul _).symm
  _<=_:=nO _ this
def AX.prodS(X:AX α)(S:Nat->Bool)(y:List α): Nat:=Jg X.F λc=>if S c=true then X.T c y else 1
end
theorem Lt.filter{ds:List Bool}{l:List Row}(h:Lt ds l)(q:Row->Bool): Lt ds (l.filter q):=h.sublist List.filter_sublist
section
variable {X:IX} {ds:List Bool}
theorem AX.gp_iff(hx:x∈X.ext n y)(hm:m<=y.length+n)(hg:X.Gp y): X.Gp (x.take m):=by
 obtain⟨D,u,j⟩:=(AX.ext_mem n y x).1 hx;intro v i;rw[List.length_take]at i;rw[getD_take X.d0 om,List.take_take,Nat.min_eq_left om];rcases Nat.lt_or_ge v y.length with h4|h4
 .have:=hg v h4;grind
 repeat grind
theorem AX.ext_gp(hx:x∈X.ext X.F [])(m:Nat): X.Gp (x.take m):=by
 have i:=((AX.ext_mem X.F [] x).1 hx).1;rw[List.length_nil,Nat.zero_add]at i;rcases Nat.lt_or_ge X.F m with h|h
 .rw[List.take_of_length_le om];have:=AX.gp_iff (m:=X.F) hx (by simp) AX.Gp.nil;grind
 repeat grind [AX.gp_iff,AX.Gp.nil]
theorem AX.Srt.within(h:X.Srt ds)(hy:y.length<=X.F)(hg:X.Gp y): (X.ext X.F []).filter (λx=>decide (x.take y.length=y))=X.ext (X.F-y.length) y:=by
 refine Jjv ((h.ext X.F [] (by simp)).filter _) (h.ext _ y om) λx=>?_;rw[List.mem_filter,AX.ext_mem,AX.ext_mem,decide_eq_true_eq];simp only[List.length_nil,Nat.zero_add,List.take_zero,true_and,Nat.zero_le,true_implies];constructor
 .grind
 rintro⟨D,i,u⟩;refine⟨⟨om,λv j=>?_⟩,i⟩;rcases Nat.lt_or_ge v y.length with h4|h4
 .have:=hg v h4;grind
 repeat grind
theorem AX.within_none(hg:¬ X.Gp y): (X.ext X.F []).filter (λx=>decide (x.take y.length=y))=[]:=by grind [List.filter_eq_nil_iff,AX.ext_gp]
end
end Pl
open Pl Go.Wk
variable {c m:Nat}{y:Row}
def Xk(f:Nat)(kf:Nat->Nat)(pf:Nat->Int)(BB:Nat->List BkT): IX:=⟨V0,f,λv=>bk (kf v) 32,pf,λv k=>entK (BB v) k⟩
structure IxP(f:Nat)(ds:List Bool)(kf:Nat->Nat)(pf:Nat->Int)(BB:Nat->List BkT)(tot:Nat)(L:List Row): Prop where
 len:tot=L.length
 nil:tot=0->∀ v,BB v=[]
 ok:tot≠0->(Xk f kf pf BB).Ok
 srt:tot≠0->(Xk f kf pf BB).Srt ds
 ans:tot≠0->L=(Xk f kf pf BB).ext f []
 big:∀ v k,(trK (BB v) k).sum<=4294967296^20
 siz:∀ v k,(trK (BB v) k).sz<=65536
 fit:∀ v b,b∈BB v->∀ p∈b.2.toL,Vj p.1/\p.1.bytes.length<=24
 f32:f<=32
 kv:∀ v,v<f->kf v<2^v
section
variable {f:Nat} {ds:List Bool} {kf:Nat->Nat} {pf:Nat->Int} {BB:Nat->List BkT} {tot:Nat} {L:List Row}
theorem Qyd(c:Nat)(y:Row): (Xk f kf pf BB).T c y=(trK (BB c) (pmR (bk (kf c) 32) y)).sum:=by
 rw[Tr.sum_eq,Jdx];rfl
theorem Qyf(c:Nat)(k:Row): (Xk f kf pf BB).E c k=(trK (BB c) k).toL:=by rw[Jdx];rfl
theorem IxP.one(h:IxP f ds kf pf BB tot L)(v:Nat)(k:Row)(p:V×Nat)(hp:p∈(trK (BB v) k).toL): Vj p.1/\p.1.bytes.length<=24:=by
 unfold trK at hp;cases hf:(BB v).find? λb=>decide (b.1=k) with
 | none=>rw[hf]at hp;cases hp
 | some b=>rw[hf]at hp;exact h.fit v b (List.mem_of_find?_eq_some hf) p hp
theorem IxP.gp(h:IxP f ds kf pf BB tot L)(hg:(Xk f kf pf BB).Gp y): ∀ u∈y,Vj u/\u.bytes.length<=24:=λu j=>by
 obtain⟨i,hi,rfl⟩:=List.getElem_of_mem j;have:=hg i hi;rw[Qyf]at this;obtain⟨p,hp,e⟩:=List.mem_map.1 this;have D:y.getD i (Xk f kf pf BB).d0=y[i]:=by simp[List.getD,hi]
 rw[D]at e;rw[<-e];exact h.one _ _ p hp
theorem fit0: Vj V0/\V0.bytes.length<=24:=⟨⟨⟨by decide,by decide⟩,⟨by decide,by decide⟩⟩,by decide⟩
theorem IxP.fitK(h:IxP f ds kf pf BB tot L)(hg:(Xk f kf pf BB).Gp y)(c:Nat): FitR (pmR (bk (kf c) 32) y):=by
 refine⟨by grind [Xw,Yo],λv j=>?_⟩;obtain⟨i,_,rfl⟩:=List.mem_map.1 j;simp only[List.getD];cases hi:y[i]? with
 | none=>exact fit0
 | some u=>exact h.gp hg u (List.mem_of_getElem? hi)
theorem IxP.pend0(h:IxP f ds kf pf BB tot L)(h0:tot≠0): (Xk f kf pf BB).pend 0 []=tot:=by
 have:=(h.ok h0).ext_len f [] (by simp;rfl);rw[<-h.ans h0,<-h.len]at this;exact this.symm
theorem IxP.keyb(h:IxP f ds kf pf BB tot L)(h0:tot≠0)(hc:c<f)(hp:pf c<(m:Int)): kf c<2^m:=by
 refine Nat.lt_pow_two_of_testBit _ λi hi=>?_;cases hb:(kf c).testBit i with
 | false=>rfl
 | true=>
  have j:i<32:=by
   rcases Nat.lt_or_ge i 32 with h'|h'
   .exact h'
   rw[Nat.testBit_lt_two_pow (nM (h.kv c hc) (Nat.pow_le_pow_right (n:=2) (by decide) (show c<=i by have:=h.f32;omega)))]at hb;cases hb
  have:(i:Int)<=pf c:=(h.ok h0).kl c hc i (bk_mem.2 ⟨j,hb⟩);omega
theorem IxP.par(h:IxP f ds kf pf BB tot L)(h0:tot≠0)(hc:c<f): -1<=pf c/\pf c<(c:Int):=(h.ok h0).pl c hc
end
end Go.Proofs.YtgobkbeokaaplaaGreatDoor
namespace Go.Wk
open Go.RowKit
open Go.Maps (Keyed)
variable {key v:Value}
section
variable {P:Program} {n:Nat} {al:AL} {w:World} {Q:Exit->Act->World->Prop} {ops:Array Oper} {rest:List Oper} {d ty:Nat} {op:Op} {pos:String} {aft:Array Edge} {tt:TT}
theorem wopv{w':World}(h:∀ a,Fr n al a->(execOp a.eval ⟨none,op,ty,pos,aft,none⟩).run P w=.ok (.value v) w')(k:WL P n ops Q rest al w'):
  WL P n ops Q (⟨none,op,ty,pos,aft,none⟩::rest) al w:=λa i=>
 wpList_plain rfl λK j=>by
  unfold Oper.wp;rw[h a i,Oper.upon_value];exact j _ _ (k _ i)
theorem mdn[hT:Tab P tt]{t k e b m:Nat}{kd:TK}{f:Lit->Option Value}{x y:Operand}{kl:Lit}(K:Keyed P k)(hM:MapS P k w b m f)(hkey:keyOf P k key=some kl)(kk:∀ w1,MapS P k w1 b m (upL f kl none)->w.grownBy w1 (some b)->WL P n ops Q rest al w1)(ht:tk tt t=some kd:=by rfl)(hk:kd.desc=.map k e:=by rfl)(hx:ev al x=some (.map (some b)):=by rfl)(hy:ev al y=some key:=by rfl):
  WL P n ops Q (⟨none,.call { callee:=.builtin .delete,args:=#[x,y],argTypes:=#[t,k] },ty,pos,aft,none⟩::rest) al w:=by
 obtain⟨w',j,D,u⟩:=hM.drop K (Yw hT.ok ht hk rfl) hkey ty;exact wopv (v:=.tuple #[]) (w':=w') (λa i=>by simp[execOp,resolve,invoke,builtin,i.ev hx,i.ev hy,j]) (kk w' D u)
end
end Go.Wk
namespace Go.Proofs.YtgobkbeokaaplaaGreatDoor
open Go.RowKit Pl Go.Wk
attribute [local irreducible] WC WL QX WD WDB WP WN WG
variable {M' c c' f m':Nat}{S':Nat->Bool}{BA p:Option Addr}
theorem KI: Maps.Keyed Tryz.prog 3:=Maps.int_keyed Tryz.underlying3
theorem Jqp(hc:c<=1000000): keyOf Tryz.prog 3 (.int .i64 (c:Int))=some (.int .i64 (c:Int)):=Maps.keyOf_int_mk Tryz.underlying3 (by
 have j:IntKind.i64.min = -9223372036854775808:=by decide
 have i:IntKind.i64.max=9223372036854775807:=by decide
 simp only[Lit.wf,Bool.and_eq_true,decide_eq_true_eq,j,i];omega)
theorem Qbk: Qr Tryz.prog 76=some (.agg #[.bool false,.pointer none]):=Vn
structure SeK where
 B0: Nat
 w0:World
 w1:World
 mb:Nat
 sb:Nat
 x0:Value
 x1:Value
 x2:Value
 x3:Value
 x4:Value
 BA:Option Addr
 bc:Nat
 f:Nat
 ds:List Bool
 kf:Nat->Nat
 pf:Nat->Int
 BB:Nat->List BkT
 tot:Nat
 L:List Row
def SeK.x(K:SeK): Value:=.agg #[K.x0,K.x1,K.x2,K.x3,K.x4]
def SeK.X(K:SeK): IX:=Xk K.f K.kf K.pf K.BB
def SeK.t(K:SeK)(c:Nat)(y:Row): Tr:=trK (K.BB c) (pmR (bk (K.kf c) 32) y)
theorem SeK.T(K:SeK)(c:Nat)(y:Row): K.X.T c y=(K.t c y).sum:=Qyd c y
theorem SeK.E(K:SeK)(c:Nat)(y:Row): K.X.E c (K.X.key c y)=(K.t c y).toL:=Qyf c _
def PdF(K:SeK)(y:Row)(S:Nat->Bool)(fm:Lit->Option Value): Prop :=
 (∀ c,c<K.f->S c=true->∃ d p,fm (.int .i64 (c:Int))=some (.agg #[.bool d,.pointer p])/\TrV (λ_=>False) K.w0 (K.t c y) (.pointer p)/\(K.t c y≠.nil->d=K.ds.getD c false)) /\
 ∀ kl,fm kl≠none->∃ c:Nat,c<K.f/\S c=true/\kl=.int .i64 (c:Int)
structure SeF(K:SeK): Prop where
 tb:TB K.B0 K.w0
 ix:IxV K.w0 K.x K.f K.ds K.kf K.pf K.BB K.tot
 ip:IxP K.f K.ds K.kf K.pf K.BB K.tot K.L
 ne:K.tot≠0
 e01:Ext K.w0 K.w1
 m1:K.w0.heap.size<=K.mb
 m2:K.mb<K.w1.heap.size
 s1:K.w1.heap.size<=K.sb
 bcl:K.f<=K.bc
 bg:Off (λk=>k=K.mb) K.w1 (λu=>Rd u 3 K.BA K.f (Qo K.f (Qp K.kf K.pf)))
 one:∀ u∈[K.x0,K.x1,K.x2,K.x3,K.x4],u.oneCell'=true
def sCs(K:SeK)(yv:Value)(st:Nat): List Value:=[K.x0,K.x1,K.x2,K.x3,K.x4,.slice K.BA K.f K.bc,yv,.map (some K.mb),.int .i64 (st:Int)]
structure SeM(K:SeK)(w:World)(y:Row)(S:Nat->Bool)(st M:Nat)(yv:Value)(m:Nat)(fm:Lit->Option Value): Prop where
 gr:GrN (λk=>k=K.mb) K.w1 w
 blk:Blk w K.sb 241 (sCs K yv st)
 row:w.ownsRow K.w1.heap.size 147 3 yv y.length (Js y)
 map:MapS Tryz.prog 3 w K.mb m fm
 mle:m<=M
 pd:PdF K y S fm
def LoB(K:SeK)(B:Nat)(yv:Value): Prop:=K.sb<B/\∀ g,yv.ownBlock=some g->g<B
def SeV(K:SeK)(w:World)(y:Row)(S:Nat->Bool)(st M B:Nat): Prop:=∃ yv m fm,SeM K w y S st M yv m fm/\LoB K B yv
section
variable {K:SeK} {w w':World} {y:Row} {S:Nat->Bool} {st M m B:Nat} {yv:Value} {fm:Lit->Option Value}
theorem SeF.nsm(hF:SeF K): ¬ K.sb=K.mb:=λe=>by have:=hF.m2;have:=hF.s1;omega
theorem SeF.ext(hF:SeF K)(h:GrN (λk=>k=K.mb) K.w1 w): Ext K.w0 w:=h.old hF.e01 λk i=>by rw[i];exact hF.m1
theorem SeM.ext'(h:SeM K w y S st M yv m fm)(hx:Ext w w'): SeM K w' y S st M yv m fm :=
 ⟨h.gr.trans (GrN.ext hx),h.blk.ext hx,Jk h.row hx,h.map.ext hx,h.mle,h.pd⟩
theorem SeM.x5(h:SeM K w y S st M yv m fm)(j:Nat)(u:Value)(hu:[K.x0,K.x1,K.x2,K.x3,K.x4][j]?=some u): w.cell? ((⟨K.sb,0,none⟩:Addr).add j)=some u :=
 Blk.pre (cs:=[K.x0,K.x1,K.x2,K.x3,K.x4]) (ds:=[.slice K.BA K.f K.bc,yv,.map (some K.mb),.int .i64 (st:Int)]) h.blk j u hu
theorem SeV.ext(h:SeV K w y S st M B)(hx:Ext w w'): SeV K w' y S st M B:=by
 obtain⟨yv,m,fm,h,i⟩:=h;exact⟨yv,m,fm,h.ext' hx,i⟩
theorem SeV.top(h:SeV K w y S st M B): SeV K w y S st M w.heap.size:=by
 obtain⟨yv,m,fm,h,u⟩:=h;obtain⟨_,_,_,_,i⟩:=Jy h.row;exact⟨yv,m,fm,h,h.blk.lt,λg j=>(i g j).2⟩
theorem SeM.to(hF:SeF K)(h:SeM K w y S st M yv m fm)(hg:GrN (λk=>k=K.mb) w w'){fm':Lit->Option Value}(hM:MapS Tryz.prog 3 w' K.mb m' fm')(hm:m'<=M')(hp:PdF K y S' fm'): SeM K w' y S' st M' yv m' fm':=by
 refine⟨h.gr.trans hg,Jc h.blk hg hF.nsm,Ja h.row hg λg j e=>?_,hM,hm,hp⟩;obtain⟨_,_,_,_,i⟩:=Jy h.row;have:=(i g j).1;have:=hF.m2;omega
theorem SeV.same(h:SeV K w y S st M B)(e:∀ c,c<K.f->S c=S' c): SeV K w y S' st M B:=by
 obtain⟨yv,m,fm,h,D⟩:=h;refine⟨yv,m,fm,⟨h.gr,h.blk,h.row,h.map,h.mle,λc i hs=>h.pd.1 c i ((e c i).trans hs),λj u=>?_⟩,D⟩;obtain⟨c,O,J,G⟩:=h.pd.2 j u;grind
theorem SeV.more(h:SeV K w y S st M B)(hM:M<=M'): SeV K w y S st M' B:=by
 obtain⟨yv,m,fm,h,i⟩:=h;exact⟨yv,m,fm,⟨h.gr,h.blk,h.row,h.map,Nat.le_trans h.mle hM,h.pd⟩,i⟩
theorem Jbx(hc:c<=1000000): WideAt.IsKeyLit (.int .i64 (c:Int)):=KI.key (Jqp hc)
theorem Jbt(h:Lit.int .i64 (c:Int)=.int .i64 (c':Int)): c=c':=by grind
theorem PdF.put(h:PdF K y S fm)(hf:K.f<=32)(hc:c<K.f){d:Bool}(ht:TrV (λ_=>False) K.w0 (K.t c y) (.pointer p))(hd:K.t c y≠.nil->d=K.ds.getD c false):
  PdF K y (λj=>S j || decide (j=c)) (upL fm (.int .i64 (c:Int)) (some (.agg #[.bool d,.pointer p]))):=by
 constructor
 .intro j D hs;by_cases e:j=c
  .subst e;rw[Kw (Jbx om)];exact⟨d,p,rfl,ht,hd⟩
  rw[Ul λG=>e (Jbt G)];exact h.1 j D (by simpa [e] using hs)
 intro i u;by_cases e:i=.int .i64 (c:Int)
 .grind
 rw[Ul e]at u;obtain⟨j,Z,O,J⟩:=h.2 i u;grind
theorem PdF.drop(h:PdF K y S fm)(hf:K.f<=32)(hc:c<K.f): PdF K y (λj=>S j && !decide (j=c)) (upL fm (.int .i64 (c:Int)) none):=by
 constructor
 .intro j D hs;simp only[Bool.and_eq_true,Bool.not_eq_true',decide_eq_false_iff_not]at hs;rw[Ul λG=>hs.2 (Jbt G)];exact h.1 j D hs.1
 intro i u;by_cases e:i=.int .i64 (c:Int)
 .grind [Kw,Jbx]
 rw[Ul e]at u;obtain⟨j,Z,O,J⟩:=h.2 i u;grind
theorem SeK.t_app(hF:SeF K)(hc:c<K.f)(hp:K.pf c<(y.length:Int))(z:Row): K.t c (y++z)=K.t c y:=by
 have:=(hF.ip.ok hF.ne).key_pre (y:=y) (z:=z) hc hp;unfold SeK.t;exact congrArg (trK (K.BB c)) this
theorem PdF.app(h:PdF K y S fm)(hF:SeF K)(hS:∀ c,c<K.f->S c=true->K.pf c<(y.length:Int))(z:Row): PdF K (y++z) S fm:=by
 refine⟨λc i hs=>?_,h.2⟩;rw[SeK.t_app hF i (hS c i hs)];exact h.1 c i hs
theorem Qvx{kf:Nat->Nat}{pf:Nat->Int}(hR:Rd w 3 BA f (Qo f (Qp kf pf)))(hc:c<f): ∀ j u,(Qp kf pf c)[j]?=some u->w.cell? ((adr BA (c*3)).add j)=some u:=λj u i=>by
 have D:j<3:=by grind [Nat.lt_or_ge,List.getElem?_eq_none,Qp]
 rw[Xh];exact hR.cell ((Jqs (sz:=3) (λ_ _=>rfl) hc D).trans i)
theorem Qyr(hF:SeF K)(hS:SeV K w y S st M B)(hM:M<=4096)(hg:K.X.Gp y)(hyf:y.length<=K.f){v:Int}(hv:v+1=(y.length:Int)):
  Ret Tryz.prog 177 [.pointer (some ⟨K.sb,0,none⟩),.int .i64 v] w λu w'=>u=.tuple #[]/\GrN (λk=>k=K.mb) w w'/\SeV K w' y (λc=>S c || decide (K.pf c=v)) st (M+K.f) B:=by
 have f32:=hF.ip.f32;obtain⟨ap,m0,b5,H0,af⟩:=id hS;refine enE Tryz.func177 Tryz.ntmps177 ?_;refine ldR (H0.blk.at (i:=5) rfl) ?_;refine ρ ?_;refine Qf (fun (c:Nat)=>[(0,.pointer (some ⟨K.sb,0,none⟩)),(1,.int .i64 v),(11,.slice K.BA K.f K.bc),(12,.int .i64 (K.f:Int)),(13,.int .i64 (c:Int))])
  (λc w'=>c<=K.f/\GrN (λk=>k=K.mb) w w'/\SeV K w' y (λj=>S j || (decide (j<c) && decide (K.pf j=v))) st (M+c) B) (λc=>K.f-c) 0 sB
  ⟨Nat.zero_le _,GrN.refl _ _,hS.same λc _=>by simp⟩ ?_
 clear af H0 ap m0 b5;rintro c w1 ⟨hc,aa,ab⟩;refine ciR (λh=>?_) (λh=>?_)
 .have lc:c<K.f:=by have:=oT h;omega
  clear h;obtain⟨yv,m,fm,H,av⟩:=id ab;have ai:=hF.bg w1 H.gr;refine Qu 3 c ai lc ?_;refine Jt (cs:=Qp K.kf K.pf c) (Qvx ai lc) ?_;refine Jv Jkp ?_;intro w2 bb au b1 b4;refine Qw (cs':=Qp K.kf K.pf c) b4 ?_ Jzd;intro w3 ao ah ar;have Z:Ext w1 w3:=ar w1 au b1;refine ldR (ao.at (i:=2) rfl) ?_;refine ciR (λh=>?_) (λh=>?_)
  .have hp:K.pf c=v:=Zv h;clear h;have H3:=H.ext' Z;have ae:=hF.ext H3.gr;have a5:Ext w3 w3.drew:=(Ext.refl w3).drew;have Hd:=H3.ext' a5;have J:=ae.trans a5;obtain⟨YA,yc,rfl,ac,_⟩:=Jy Hd.row;have ag:=hF.ip.keyb hF.ne lc (m:=y.length) (by rw[hp];omega);have a1:=hF.ip.fitK hg c;refine ρ ?_;refine drH (λi=>Nat.ble 20 i) ?_;refine Zo (fuel':=8) 10 [(0,0),(0,1),(0,2),(0,3),(0,4),(0,5),(0,6),(0,7),(0,8),(0,9),(0,10),(0,11),(0,12),(0,13)] (lst 22 14) kr kr rfl ?_;refine Qz (cs:=[K.x0,K.x1,K.x2,K.x3,K.x4]) (λj u hu=>Hd.x5 j u hu) ?_;refine Qz (cs:=[K.x0,K.x1,K.x2,K.x3,K.x4]) (λj u hu=>Hd.x5 j u hu) ?_;refine Jz (Hd.blk.at (i:=6) rfl) ?_;refine ρd ?_;refine Xb ?_;refine Jvb 2 (lst 22 20) (fun (q:Bool×Option Addr×Bool×Nat)=>[(39,.agg #[.bool q.1,.pointer q.2.1]),(40,.bool q.2.2.1),(6,.pointer (some ⟨q.2.2.2,0,none⟩)),(4,.int .i64 (c:Int)),(0,.pointer (some ⟨K.sb,0,none⟩)),(1,.int .i64 v),(11,.slice K.BA K.f K.bc),(12,.int .i64 (K.f:Int)),(13,.int .i64 (c:Int))])
    (λq W=>Ext w3.drew W/\Blk W q.2.2.2 76 [.bool false,.pointer none]/\w3.drew.heap.size<=q.2.2.2/\TrV (λ_=>False) K.w0 (K.t c y) (.pointer q.2.1)/\(K.t c y≠.nil->q.1=K.ds.getD c false)) ?_ ?_
   .rintro⟨d,p,e,b6⟩ W ⟨aq,an,aj,hT,hd⟩;simp only at an aj hT hd;refine Zo (fuel':=0) 10 [(2,20),(2,21)] (lst 22 22) kr kr rfl ?_;refine Qq ?_;refine stW an ?_;intro W2 am b7 ad;refine Jd (Qa ?_);refine Qq ?_;refine ρ ?_;refine Qa ?_;refine Ue (Xb ?_);refine Ud kr ?_;have a7:Ext w3 W2:=ad w3 (a5.trans aq) (nL a5.size aj);have HW:=H3.ext' (a7.trans ((Ext.refl W2).drew));have ak:=am.ext ((Ext.refl W2).drew);refine ρ ?_;refine drN (λ_=>False) 10 (scq 7 [106]) kr ?_;refine ρn ?_;refine nld (Jr (HW.blk.at (i:=7) rfl) (λe=>e)) ?_;refine ρn ?_;refine Xs (cs:=[.bool d,.pointer p]) (λw' hg j u hu=>(Jc ak hg (λe=>e)).at hu) ?_;refine ρn ?_;refine Xm ?_;refine mup KI HW.map (by have:=HW.mle;unfold maxLen;omega) (Jqp (c:=c) om) ?_;intro W3 b3 ah;have a9:GrN (λk=>k=K.mb) W2.drew W3:=GrN.by ah λk hk=>by injection hk with hk;exact hk.symm
    have b2:=HW.to hF a9 b3 (M':=M+(c+1)) (by have:=HW.mle;omega) (HW.pd.put f32 lc hT hd);refine ρ ?_;refine Qy (c+1) sO ⟨lc,((aa.trans (GrN.ext Z)).trans (GrN.ext (a7.trans (Ext.refl W2).drew))).trans a9,SeV.same ⟨_,_,_,b2,av⟩ λj _=>?_⟩ om;by_cases e:j=c
    .subst e;simp[hp]
    have:(decide (j<c+1))=decide (j<c):=by by_cases h1:j<c<;>simp[h1]<;>omega
    rw[this];simp[e]
   intro rest;have a2:∀ {d:Bool},((Ze (K.BB c) (pmR (bk (K.kf c) 32) y)).isSome=true->d=K.ds.getD c false)->K.t c y≠.nil->d=K.ds.getD c false:=fun {d} h hne=>h (by
    cases hi:Ze (K.BB c) (pmR (bk (K.kf c) 32) y) with
    | none=>exact absurd (Jlm hi) hne
    | some i=>rfl)
   have a8:=Rd.own Hd.row;refine htwo 14 19 kr rfl rfl rfl ?_ ?_
   .refine clR (Jlb (hF.ix.ext J) lc a8 ac om ag) ?_;rintro uk W1 ⟨⟨KA,kc,rfl,ay,ax,a6,_⟩,D⟩;refine Jd (Il D ?_);refine htwo 15 19 kr rfl rfl rfl ?_ ?_
    .refine clR (Jcb (hF.tb.ext (J.trans D)) (J.trans D) hF.ix lc a6 a1) ?_;rintro u W2 ⟨d,p,rfl,hT,hd,G⟩;refine Jd (Il G ?_);refine Zo (fuel':=4) 10 [(0,16),(0,17)] (lst 22 18) kr kr rfl ?_;refine ρd ?_;refine Xb ?_;refine Ub (fuel':=3) 18 kr kr rfl rfl ?_;refine ρp ?_;refine ρd ?_;refine Xb ?_;refine Zo (fuel':=2) 10 [(1,19)] (lst 22 20) kr kr rfl ?_;refine dalc' (cs:=[.bool false,.pointer none]) Vn ?_;intro W3 b6 O a3 a4;refine Ue (Xb ?_);exact rest (d,p,_,b6) _ _ ⟨(D.trans G).trans O,a4,Nat.le_trans (D.trans G).size a3,hT,a2 hd⟩ sB
    refine Jv Vn ?_;intro W2 b6 G a3 a4;refine Jd (Il G ?_);refine Zo (fuel':=3) 10 [(1,15),(0,16),(0,17)] ((lst 22 18).setIfInBounds 19 true) kr kr rfl ?_;refine Jh (Jcb (hF.tb.ext ((J.trans D).trans G)) ((J.trans D).trans G) hF.ix lc (a6.ext G) a1) ?_;rintro u W3 ⟨d,p,rfl,hT,hd,O⟩;refine⟨O,?_⟩;refine ρd ?_;refine Xb ?_;refine Ub (fuel':=2) 18 kr kr rfl rfl ?_;refine ρp ?_;refine ρd ?_;refine Xb ?_;refine hlist (listed':=lst 22 20) kr ?_;exact rest (d,p,_,b6) _ _ ⟨(D.trans G).trans O,a4.ext O,Nat.le_trans D.size a3,hT,a2 hd⟩ sB
   refine Jv Vn ?_;intro W1 b6 D a3 a4;refine Jd (Il D ?_);refine Zo (fuel':=3) 10 [(1,14),(1,15),(0,16),(0,17)] ((lst 22 18).setIfInBounds 19 true) kr kr rfl ?_;refine Jh (Jlb (hF.ix.ext (J.trans D)) lc (Rd.ext a8 D) ac om ag) ?_;rintro uk W2 ⟨⟨KA,kc,rfl,ay,ax,a6,_⟩,G⟩;refine⟨G,?_⟩;refine Jh (Jcb (hF.tb.ext ((J.trans D).trans G)) ((J.trans D).trans G) hF.ix lc a6 a1) ?_;rintro u W3 ⟨d,p,rfl,hT,hd,O⟩;refine⟨O,?_⟩;refine ρd ?_;refine Xb ?_;refine Ub (fuel':=2) 18 kr kr rfl rfl ?_;refine ρp ?_;refine ρd ?_;refine Xb ?_;refine hlist (listed':=lst 22 20) kr ?_;exact rest (d,p,_,b6) _ _ ⟨(D.trans G).trans O,(a4.ext G).ext O,a3,hT,a2 hd⟩ sB
  have hp:¬ K.pf c=v:=Xo h;clear h;refine ρ ?_;refine Qy (c+1) sO ⟨lc,aa.trans (GrN.ext Z),((ab.ext Z).same λj _=>?_).more om⟩ om;by_cases e:j=c
  .subst e;simp[hp]
  have:(decide (j<c+1))=decide (j<c):=by by_cases h1:j<c<;>simp[h1]<;>omega
  rw[this]
 have az:c=K.f:=by have:=oF h;omega
 subst az;clear h;refine ρ ?_;refine Yt ⟨rfl,aa,ab.same λj hj=>?_⟩;simp[hj]
theorem Qyn(hF:SeF K)(hS:SeV K w y S st M B)(hyf:y.length<K.f)(hs:S y.length=true):
  Ret Tryz.prog 140 [.pointer (some ⟨K.sb,0,none⟩)] w λu w'=>(∃ d p,u=.agg #[.bool d,.pointer p]/\TrV (λ_=>False) K.w0 (K.t y.length y) (.pointer p)/\(K.t y.length y≠.nil->d=K.ds.getD y.length false))/\GrN (λk=>k=K.mb) w w'/\SeV K w' y (λc=>S c && !decide (c=y.length)) st M B:=by
 have f32:=hF.ip.f32;obtain⟨yv,m,fm,H,a4⟩:=id hS;obtain⟨d,p,a8,ht,hd⟩:=H.pd.1 y.length hyf hs;obtain⟨YA,yc,rfl,ag,_⟩:=Jy H.row;refine enE Tryz.func140 Tryz.ntmps140 ?_;refine Jv Vn ?_;intro w1 b1 Z aj ae;have H1:=H.ext' Z;refine ldR (H1.blk.at (i:=6) rfl) ?_;refine ldR (H1.blk.at (i:=7) rfl) ?_;refine ρ ?_;refine mlk KI H1.map Vn (Jqp (c:=y.length) om) ?_;rw[a8];refine Jv Vn ?_;intro w2 b2 a1 a9 ad;refine Zk ad ?_;intro w3 ac ai a3;have D:Ext w1 w3:=a3 w1 a1 a9;have H3:=H1.ext' D;refine ldR (H3.blk.at (i:=7) rfl) ?_;refine ρ ?_;refine mdn KI H3.map (Jqp (c:=y.length) om) ?_;intro w4 aa a7;have G:GrN (λk=>k=K.mb) w3 w4:=GrN.by a7 λk j=>by injection j with j;exact j.symm
 have af:K.mb<w.heap.size:=H.map.lt;have l1:=Z.size;have l2:=a1.size;have n1:¬ b1=K.mb:=om
 have n2:¬ b2=K.mb:=om
 have a2:=Jc ac G n2;refine Qk a2 ?_;refine Zk (Jc (ae.ext D) G n1) ?_;intro w5 ab a6 ah;have a5:GrN (λk=>k=K.mb) w w4:=((GrN.ext Z).trans (GrN.ext D)).trans G;have O:GrN (λk=>k=b1) w4 w5:=GrN.by a6 λk j=>by injection j with j;exact j.symm
 have J:GrN (λk=>k=K.mb) w w5:=((a5.mono λk _ j=>(.inl j:k=K.mb∨k=b1)).trans (O.mono λk _ j=>.inr j)).mono λk j h=>h.elim id λe=>by omega
 refine ρ ?_;refine Kq ab ⟨⟨d,p,rfl,ht,hd⟩,J,_,m,_,H.to hF J (aa.gr O (λe=>n1 e.symm)) H.mle (H.pd.drop f32 hyf),a4⟩
theorem Qyp(hF:SeF K)(hS:SeV K w y S st M B)(hM:M<=4096)(hyf:y.length<K.f)(v:V)(hg:K.X.Gp (y++[v]))(hSp:∀ c,c<K.f->S c=true->K.pf c<(y.length:Int)):
  Ret Tryz.prog 142 [.pointer (some ⟨K.sb,0,none⟩),v.val] w λu w'=>u=.tuple #[]/\GrN (λk=>k<B) w w'/\SeV K w' (y++[v]) (λc=>S c || decide (K.pf c=(y.length:Int))) st (M+K.f) w'.heap.size:=by
 have f32:=hF.ip.f32;obtain⟨yv,m,fm,H,a6⟩:=id hS;obtain⟨YA,yc,rfl,ao,a2⟩:=Jy H.row;refine enE Tryz.func142 Tryz.ntmps142 ?_;refine bxR (cs:=v.cells) ?_;intro w1 b1 a7 ar aj;have a3:Ext w1 w1.drew:=(Ext.refl w1).drew;have Hd:=H.ext' (a7.trans a3);have ad:=aj.ext a3;have n1:¬ (Value.slice YA y.length yc).ownBlock=some b1:=λe=>by have:=(a2 b1 e).2;omega
 have ns:¬ (Value.slice YA y.length yc).ownBlock=some K.sb:=λe=>(Blk.ne_own Hd.blk Hd.row rfl) e.symm;refine ρ ?_;refine drN (λk=>(Value.slice YA y.length yc).ownBlock=some k) 10 (scq 11 [6,7,110]) kr ?_;refine ρn ?_;refine nld (Jr (Hd.blk.at (i:=6) rfl) ns) ?_;refine ρn ?_;refine Xs (cs:=v.cells) (λw' hg j u hu=>(Jc ad hg n1).at hu) ?_;refine ρn ?_;refine nop ?_;refine bsl (Jvt v) ?_;intro w2 b2 a4 aq ai;refine ρ ?_;refine Qj (GrN.ext a4) ?_;have H2:=Hd.ext' a4;refine nop ?_;have a8:K.w1.heap.size<=w2.heap.size:=H2.gr.size;refine apb (m':=1) (news:=v.cells) EV H2.row (ai.rd (n:=1) rfl) (V.one _) (by unfold maxLen;omega) om a8 ?_;intro an Z a5 ab ap;obtain⟨Y3,c3,rfl,am,ak⟩:=Jy a5;refine ρ ?_;refine Qj (GrN.by ab λk hk=>hk) ?_;refine ρn ?_;refine Xm ?_;have G:GrN (λk=>(Value.slice YA y.length yc).ownBlock=some k) w2 Z:=GrN.by ab λk hk=>hk
 have O:=Jc H2.blk G ns;refine sto (O.at (i:=6) rfl) (O.frozen 6) ?_;have J:Blk (Z.setCell ((⟨K.sb,0,none⟩:Addr).add 6) (.slice Y3 (y.length+1) c3)) K.sb 241 (sCs K (.slice Y3 (y.length+1) c3) st):=O.set 6 _;have D:GrN (λk=>k=K.sb) Z (Z.setCell ((⟨K.sb,0,none⟩:Addr).add 6) (.slice Y3 (y.length+1) c3)):=GrN.set _ rfl;have ah:MapS Tryz.prog 3 Z K.mb m fm:=H2.map.gr G (λe=>by have:=(a2 _ e).1;have:=hF.m2;omega);have ac:=ah.gr D (λe=>hF.nsm e.symm);have a9:=Ja a5 D λg eg e=>by rw[e]at eg;exact(Blk.ne_own O a5 rfl) eg.symm
 have a1:GrN (λk=>k=K.mb) K.w1 (Z.setCell ((⟨K.sb,0,none⟩:Addr).add 6) (.slice Y3 (y.length+1) c3)):=by
  have h1:=((H2.gr.mono λk _ h=>(.inl h:k=K.mb∨K.w1.heap.size<=k)).trans (G.mono λk _ h=>(.inr (a2 k h).1:k=K.mb∨K.w1.heap.size<=k))).trans (D.mono λk _ h=>(.inr (by rw[h];exact hF.s1):k=K.mb∨K.w1.heap.size<=k));exact h1.mono λk hk h=>h.elim id λh'=>by omega
 have ae:K.mb<B:=by have:=hF.m2;have:=hF.s1;have:=a6.1;omega
 have aa:GrN (λk=>k<B) w (Z.setCell ((⟨K.sb,0,none⟩:Addr).add 6) (.slice Y3 (y.length+1) c3)) :=
  ((GrN.ext ((a7.trans a3).trans a4)).trans (G.mono λk _ h=>a6.2 k h)).trans (D.mono λk _ h=>by rw[h];exact a6.1)
 generalize (Z.setCell ((⟨K.sb,0,none⟩:Addr).add 6) (.slice Y3 (y.length+1) c3))=w4 at J D ac a9 a1 aa
 have ag:SeV K w4 (y++[v]) S st M w4.heap.size:=by
  refine⟨_,m,fm,⟨a1,J,?_,ac,H.mle,H.pd.app hF hSp [v]⟩,J.lt,λg eg=>(Jy a9).elim λ_ h=>h.elim λ_ h=>(h.2.2 g eg).2⟩;grind [List.length_append,List.length_singleton,rowC_app',Js]
 refine ω5 ?_;refine Gv ?_;refine ρn ?_;refine ldR (J.at (i:=6) rfl) ?_;refine clR (Qyr hF ag hM hg (by simp;omega) (v:=((y.length+1:Nat):Int)-1) (by simp)) ?_;rintro u w5 ⟨rfl,af,h5⟩;refine ρ ?_;refine Yt ⟨rfl,aa.trans (af.mono λk _ h=>by rw[h];exact ae),h5.top.same λc hc=>?_⟩;grind
theorem Qyq(hF:SeF K)(hS:SeV K w y S st M B):
  Ret Tryz.prog 143 [.pointer (some ⟨K.sb,0,none⟩)] w λu w'=>NatV w' u (K.X.prodS S y)/\Fresh w u/\Ext w w':=by
 have f32:=hF.ip.f32;obtain⟨yv,m,fm,H,b3⟩:=id hS;obtain⟨g,hg⟩:∃ g:(Lit->Bool)->Nat->Nat,g=λleft c=>if S c=true/\left (.int .i64 (c:Int))=false then K.X.T c y else 1:=⟨_,rfl⟩
 have ar:∀ left c,g left c<=4294967296^20:=λleft c=>by
  rw[hg];simp only;split
  .rw[K.T];exact hF.ip.big _ _
  repeat grind
 have ap:∀ left,Nb (Jg K.f (g left)):=λleft=>Nb.pow (k:=K.f) (Jjz (Nat.pow_pos (by decide)) λc _=>ar left c) om;refine enE Tryz.func143 Tryz.ntmps143 ?_;refine clR (Jwm 1 (by decide) _) ?_;rintro O w1 ⟨a9,ae,J⟩;refine ldR ((H.blk.ext J).at (i:=7) rfl) ?_;refine ρ ?_;refine rngm KI (H.map.ext J) ?_;intro w2 r cnt a2 a8 ag;have lr:w.heap.size<=r:=nL J.size a8;refine ρ ?_;refine Xn (fun (left:Lit->Bool) (cnt:Nat) (O:Value)=>[(0,.pointer (some ⟨K.sb,0,none⟩)),(3,O),(11,.pointer (some ⟨r,0,none⟩))])
  (λleft cnt O w'=>Ext w w'/\RgS Tryz.prog 3 w' K.mb r m fm left cnt/\NatX (λk=>k=r) w' O (Jg K.f (g left))/\Fresh w O) (λ_ cnt _=>cnt) _ cnt O sB ⟨J.trans a2,ag,?_,ae⟩ ?_
 .have e:Jg K.f (g λkl=>(fm kl).isSome)=1:=Jgk λc hc=>by
   rw[hg];simp only;rw[if_neg];rintro⟨h1,h2⟩;obtain⟨d,p,h3,_⟩:=H.pd.1 c hc h1;rw[h3]at h2;cases h2
  rw[e];exact(NatX.old (N:=λ_=>False) ⟨a9,λ_ _ _ _ _ h=>h⟩ λk hk=>.inr (by rw[hk];exact a8)).ext a2
 clear a9 ae ag a2 J O cnt;rintro left cnt O w3 ⟨a5,ay,a3,au⟩;refine ρ ?_;refine nxtm KI ay (λhl=>?_) (λkey v kl w4 ah b2 b4 ac af aq aa av=>?_)
 .refine ρ ?_;have e:Jg K.f (g left)=K.X.prodS S y:=Gw λc hc=>by grind
  rw[e]at a3;exact Jj ⟨a3.1,au,a5⟩
 obtain⟨c,hc,a7,rfl⟩:=H.pd.2 kl (by rw[ac];simp);obtain⟨d,p,Z,ht,_⟩:=H.pd.1 c hc a7;rw[ac]at Z;injection Z with Z
 subst Z;have a1:Ext w w4:=aa.old a5 λk hk=>by rw[hk];exact lr
 refine ρ ?_;refine entm av ?_;refine Jv Vn ?_;intro w5 b5 ak ax b1;refine Zk b1 ?_;intro w6 az b6 aj;have D:Ext w4 w6:=aj w4 ak ax;refine Qk az ?_;refine ρ ?_;have a6:Ext K.w0 w6:=(hF.ext H.gr).trans (a1.trans D);refine cl (Jdw (ht.ext a6) (by rw[<-K.T];exact Nb.pow (k:=1) (by rw[Nat.pow_one,K.T];exact hF.ip.big _ _) om)) ?_;rintro ut w7 ⟨am,b7,G⟩;have ao:NatV w7 O (Jg K.f (g left)):=(((a3.gr aa).ext D).ext G).1;refine clR (Jzm ao am (ap left).len (Nb.len (Nb.pow (k:=1) (by rw[Nat.pow_one];exact hF.ip.big _ _) om))) ?_;rintro ur w8 ⟨an,ab,a4⟩;refine ρ ?_;refine Qt _ ah ur sO ⟨((a1.trans D).trans G).trans a4,((af.ext D).ext G).ext a4,?_,λad m c e=>?_⟩ aq
 .have ai:r<w7.heap.size:=nM (af.lt) (D.trans G).size;have e:Jg K.f (g λz=>left z && !z.sameKey (.int .i64 (c:Int)))=Jg K.f (g left)*(K.t c y).sum:=by
   rw[Jwh hc,Jwh (g:=g left) hc];have h1:g left c=1:=by grind
   have h2:g (λz=>left z && !z.sameKey (.int .i64 (c:Int))) c=(K.t c y).sum:=by
    rw[hg];simp only;rw[if_pos ⟨a7,by rw[WideAt.sameKey_self (Jbx om)];simp⟩,K.T]
   rw[h1,h2,Nat.one_mul,Nat.mul_comm];congr 1
   refine Gw λj hj=>?_;by_cases ej:j=c
   .rw[if_pos ej,if_pos ej]
   rw[if_neg ej,if_neg ej,hg];simp only;have:(Lit.int .i64 (j:Int)).sameKey (.int .i64 (c:Int))=false:=Maps.sameKey_ne λe'=>ej (Jbt e');grind
  rw[e];exact ab.x an λk hk=>by rw[hk];exact ai
 exact nL (((a1.trans D).trans G).size) (ab ad m c e)
end
open Go.RowKit Pl Go.Wk
attribute [local irreducible] WH
variable {L:List Row}{B0 c f k m pc:Nat}{pf:Nat->Int}{BB:Nat->List BkT}{y z:Row}{x:Value}{w w0:World}
def pS(pf:Nat->Int)(m q:Nat)(c:Nat): Bool:=decide (m<=c) && decide (pf c<(q:Int))
theorem Qjl(K:SeK)(m:Nat)(y:Row): K.X.prodS (pS K.pf m m) y=K.X.pend m y:=Gw λc _=>by
 simp only[pS,Bool.and_eq_true,decide_eq_true_eq];rfl
theorem Qjm(K:SeK)(m:Nat)(y:Row): K.X.prodS (pS K.pf (m+1) m) y=K.X.others m y:=Gw λc _=>by
 simp only[pS,Bool.and_eq_true,decide_eq_true_eq];rfl
theorem Jgr: (pS pf m m c && !decide (c=m))=pS pf (m+1) m c:=by grind [pS]
theorem Jgs(hp:pf c<(c:Int)): (pS pf (m+1) m c || decide (pf c=(m:Int)))=pS pf (m+1) (m+1) c:=by
 unfold pS;grind
def hmB(bs:List BkT): Nat:=bs.foldl (λm b=>max m b.2.ht) 0
theorem foldl_max{bs:List BkT}: ∀ {m:Nat},m<=bs.foldl (λm b=>max m b.2.ht) m/\∀ b∈bs,b.2.ht<=bs.foldl (λm b=>max m b.2.ht) m:=by
 induction bs with
 | nil=>intro m;exact⟨nR _,λb i=>by cases i⟩
 | cons a bs ih=>
  grind
theorem Jrr(bs:List BkT)(k:Row): (trK bs k).ht<=hmB bs:=by
 unfold trK;cases hf:bs.find? λb=>decide (b.1=k) with
 | none=>exact Nat.zero_le _
 | some b=>exact foldl_max.2 b (List.mem_of_find?_eq_some hf)
def wiL(L:List Row)(y:Row): List Row:=L.filter λx=>decide (x.take y.length=y)
theorem Xkd(A B C D E F:Option Addr)(a b c d e f a' b' c' d' e' f':Nat)(mb:Nat)(w:World): (Instr.build 241 #[(0,.agg #[.slice A a a',.slice B b b',.slice C c c',.slice D d d',.slice E e e']),(1,.slice F f f'),(3,.map (some mb))]).run Tryz.prog w=.ok (.agg #[.slice A a a',.slice B b b',.slice C c c',.slice D d d',.slice E e e',.slice F f f',.slice none 0 0,.map (some mb),.int .i64 0]) w:=kr
section
variable {f:Nat} {ds:List Bool} {kf:Nat->Nat} {pf:Nat->Int} {BB:Nat->List BkT} {tot:Nat} {L:List Row}
theorem Xvg(tb:TB B0 w)(ix:IxV w x f ds kf pf BB tot)(ip:IxP f ds kf pf BB tot L)(ne:tot≠0):
  Ret Tryz.prog 139 [x] w λu w'=>∃ K:SeK,(K.w0=w/\K.f=f/\K.ds=ds/\K.kf=kf/\K.pf=pf/\K.BB=BB/\K.tot=tot/\K.L=L)/\u=.pointer (some ⟨K.sb,0,none⟩)/\SeF K/\SeV K w' [] (pS K.pf 0 0) 0 32 w'.heap.size/\Ext w w':=by
 obtain⟨DA,dc,BA,cb,KA,ck,PA,cp,tv,ag,af,rfl,aj,ak,hD,hB,hK,hP,a8,ah⟩:=id ix.ex;obtain⟨TA,tc,rfl,_⟩:=id a8;refine enE Tryz.func139 Tryz.ntmps139 ?_;refine bxR ?_;intro w1 b a7 hb ac;have a3:Ext w1 w1.drew:=(Ext.refl w1).drew;have a5:=ac.ext a3;have G:=a7.trans a3;refine ρ ?_;refine drG kr ?_;refine Ie (fuel':=5) [(0,0),(0,1)] #[true,true,false,false,false,false,false] kr kr rfl ?_;refine Qz (cs:=[.slice DA f dc,.slice BA f cb,.slice KA f ck,.slice PA f cp,.slice TA (Jq tot).length tc]) (λj u hu=>a5.at hu) ?_;refine Qz (cs:=[.slice DA f dc,.slice BA f cb,.slice KA f ck,.slice PA f cp,.slice TA (Jq tot).length tc]) (λj u hu=>a5.at hu) ?_;refine ρd ?_;refine Io ?_;refine gcut 3 #[true,true,true,true,false,false,false] (fun (q:Option Addr×Nat×Nat)=>[(4,.agg #[.slice DA f dc,.slice BA f cb,.slice KA f ck,.slice PA f cp,.slice TA (Jq tot).length tc]),(6,.slice q.1 f q.2.1),(7,.map (some q.2.2))])
  (λq W=>Ext w1.drew W/\f<=q.2.1/\w1.drew.heap.size<=q.2.2/\MapS Tryz.prog 3 W q.2.2 0 (λ_=>none)/\Off (λk=>k=q.2.2) W (λu=>Rd u 3 q.1 f (Qo f (Qp kf pf)))) ?_ ?_
 .rintro⟨A,c,mb⟩ w2 ⟨D,J,hm,Z,O⟩;simp only at J hm Z O;refine Ie (fuel':=0) [(1,4),(1,5),(0,6)] #[true,true,true,true,true,true,true] kr kr rfl ?_;refine Gc ?_;refine bld (Xkd _ _ _ _ _ _ _ _ _ _ _ _ _ _ _ _ _ _ _ _) ?_;refine Jd (Gb (Ext.refl _) ?_);refine Gc ?_;refine bx ?_;intro w3 sb i a9 a4;refine Jd (Gb i ?_);refine ρd ?_;refine Io ?_;refine gend kr ?_;obtain⟨K,hK⟩:∃ K:SeK,K=⟨B0,w,w2,mb,sb,.slice DA f dc,.slice BA f cb,.slice KA f ck,.slice PA f cp,.slice TA (Jq tot).length tc,A,c,f,ds,kf,pf,BB,tot,L⟩:=⟨_,rfl⟩;have hF:SeF K:=by
   subst hK;exact⟨tb,ix,ip,ne,G.trans D,Nat.le_trans G.size hm,Z.lt,a9,J,O,Qqg⟩
  have hV:SeV K w3 [] (λ_=>false) 0 0 w3.heap.size:=by
   subst hK;exact⟨.slice none 0 0,0,λ_=>none,⟨GrN.ext i,a4,Zw _ _ _ _,Z.ext i,Nat.le_refl _,λc _ h=>(by cases h),λkl h=>absurd rfl h⟩,a4.lt,λg eg=>by simp[Value.ownBlock]at eg⟩
  have a6:K.w0=w/\K.f=f/\K.ds=ds/\K.kf=kf/\K.pf=pf/\K.BB=BB/\K.tot=tot/\K.L=L:=by grind
  have ae:sb=K.sb:=by subst hK;rfl
  have a2:=(G.trans D).trans i;have em:w.heap.size<=K.mb:=by rw[<-a6.1];exact hF.m1
  have f32:K.f<=32:=hF.ip.f32;subst ae;refine clR (Qyr hF hV om AX.Gp.nil (by simp) (v:=-1) rfl) ?_;rintro u w4 ⟨rfl,aa,ab⟩;refine ρ ?_;refine Jj ⟨K,a6,rfl,hF,(ab.top.same λc J=>?_).more om,aa.old a2 λk hk=>by rw[hk];exact em⟩;have:=hF.ip.par hF.ne J;unfold pS;grind
 intro rest;refine gtwo 2 3 kr rfl rfl rfl ?_ ?_
 .refine clR (Jld (ix.ext G)) ?_;rintro u w2 ⟨⟨A,c,rfl,J,hR,hf⟩,D⟩;refine Jd (Jbz D ?_);refine Ie (fuel':=3) [(1,3)] #[true,true,true,true,false,false,false] kr kr rfl ?_;refine Gc ?_;refine mkm 3 ?_;intro w3 mb i a1 Z;refine Jd (Gb i ?_);refine Ue (Io ?_);refine rest (A,c,mb) _ _ ⟨D.trans i,J,Nat.le_trans D.size a1,Z,Jwf (hR.ext i) λh0 ad e (e2:ad.block=mb)=>?_⟩ sB;have e:A=some ad:=e;obtain⟨am,e',ai⟩:=hR.2 h0;grind
 refine ρ ?_;refine mkm 3 ?_;intro w2 mb D a1 Z;refine Jd (Jbz D ?_);refine Ie (fuel':=3) [(1,2)] #[true,true,true,true,false,false,false] kr kr rfl ?_;refine Gc ?_;refine cl (Jld (ix.ext (G.trans D))) ?_;rintro u w3 ⟨⟨A,c,rfl,J,hR,hf⟩,i⟩;refine Jd (Gb i ?_);refine Ue (Io ?_);refine rest (A,c,mb) _ _ ⟨D.trans i,J,a1,Z.ext i,Jwf hR λh0 ad e (e2:ad.block=mb)=>?_⟩ sB;have:=hf ad e;have:=Z.lt;omega
end
section
variable {K:SeK} {w:World} {y:Row} {S:Nat->Bool} {st M B:Nat}
theorem SeV.steps(hF:SeF K)(h:SeV K w y S st M B)(k:Nat): SeV K (w.setCell ((⟨K.sb,0,none⟩:Addr).add 8) (.int .i64 ((st+k:Nat):Int))) y S (st+k) M B/\GrN (λk=>k=K.sb) w (w.setCell ((⟨K.sb,0,none⟩:Addr).add 8) (.int .i64 ((st+k:Nat):Int))):=by
 obtain⟨yv,m,fm,H,u⟩:=h;have i:GrN (λk=>k=K.sb) w (w.setCell ((⟨K.sb,0,none⟩:Addr).add 8) (.int .i64 ((st+k:Nat):Int))):=GrN.set _ rfl;refine⟨⟨yv,m,fm,⟨?_,H.blk.set 8 _,Ja H.row i λg j e=>?_,H.map.gr i λe=>hF.nsm e.symm,H.mle,H.pd⟩,u⟩,i⟩
 .exact((H.gr.mono λk _ h=>(.inl h:k=K.mb∨k=K.sb)).trans (i.mono λk _ h=>.inr h)).mono λk D h=>h.elim id λe=>by have:=hF.s1;omega
 rw[e]at j;exact(Blk.ne_own H.blk H.row rfl) j.symm
theorem SeF.pnb(hF:SeF K)(m:Nat)(z:Row): Nb (K.X.pend m z):=by
 refine Nb.pow (k:=K.f) (Jjz (Nat.pow_pos (by decide)) λc _=>?_) hF.ip.f32;split
 .rw[K.T];exact hF.ip.big _ _
 repeat grind
theorem SeV.ext0(h:SeV K w y S st M B)(hF:SeF K): Ext K.w0 w:=by
 obtain⟨yv,m,fm,H,_⟩:=h;exact hF.ext H.gr
theorem SeF.has(hF:SeF K)(hc:c<K.f){d:Bool}(hd:K.t c z≠.nil->d=K.ds.getD c false)(v:V):
  Tr.hasT d v (K.t c z)=true↔v∈(K.X.E c (K.X.key c z)).map (·.1):=by
 rw[K.E];by_cases h:K.t c z=.nil
 .rw[h];simp[Tr.hasT,Tr.toL]
 have hs:Jjk d (K.t c z).toL:=by
  rw[hd h,<-K.E];exact(hF.ip.srt hF.ne).srt c hc _
 exact(Tr.befT_eq hs).2
end
def AcR(f:Nat)(BB:Nat->List BkT)(L:List Row)(y:Row)(k:Nat)(u:Value)(w:World): Prop:=match(wiL L y)[k]? with
 | some r=>∃ A c,∃ st:Nat,u=.tuple #[.slice A r.length c,.int .i64 (st:Int),.int .i64 0]/\RdR w A r/\r.length<=c/\r.length=f/\st<=Qc f λv=>hmB (BB v)
 | none=>u=.tuple #[.slice none 0 0,.int .i64 0,.int .i64 3]
theorem AcR.none(h:(wiL L y)[k]?=none): AcR f BB L y k (.tuple #[.slice none 0 0,.int .i64 0,.int .i64 3]) w:=by
 unfold AcR;rw[h]
def AcRF(w0:World)(f:Nat)(BB:Nat->List BkT)(L:List Row)(y:Row)(k:Nat)(u:Value)(w:World): Prop:=match(wiL L y)[k]? with
 | some r=>∃ A c,∃ st:Nat,u=.tuple #[.slice A r.length c,.int .i64 (st:Int),.int .i64 0]/\RdR w A r/\r.length<=c/\r.length=f/\(st<=Qc f λv=>hmB (BB v))/\(r≠[]->∀ ad,A=some ad->w0.heap.size<=ad.block)
 | none=>u=.tuple #[.slice none 0 0,.int .i64 0,.int .i64 3]
theorem AcRF.none(h:(wiL L y)[k]?=none): AcRF w0 f BB L y k (.tuple #[.slice none 0 0,.int .i64 0,.int .i64 3]) w:=by
 unfold AcRF;rw[h]
section
variable {f:Nat} {ds:List Bool} {kf:Nat->Nat} {pf:Nat->Int} {BB:Nat->List BkT} {tot:Nat} {L:List Row}
theorem IxP.wi_none(ip:IxP f ds kf pf BB tot L)(ne:tot≠0)(hg:¬ (Xk f kf pf BB).Gp y): wiL L y=[]:=by
 unfold wiL;rw[ip.ans ne];exact AX.within_none hg
theorem IxP.wi_some(ip:IxP f ds kf pf BB tot L)(ne:tot≠0)(hy:y.length<=f)(hg:(Xk f kf pf BB).Gp y): wiL L y=(Xk f kf pf BB).ext (f-y.length) y:=by
 unfold wiL;rw[ip.ans ne];exact(ip.srt ne).within hy hg
theorem IxP.nbP(ip:IxP f ds kf pf BB tot L)(m:Nat)(z:Row): Nb ((Xk f kf pf BB).pend m z):=by
 refine Nb.pow (k:=f) (Jjz (Nat.pow_pos (by decide)) λc _=>?_) ip.f32;split
 .rw[Qyd];exact ip.big _ _
 repeat grind
theorem IxP.nbT(ip:IxP f ds kf pf BB tot L): Nb tot:=by
 by_cases h:tot=0
 .rw[h];exact(ip.nbP 0 []).le (Nat.zero_le _)
 rw[<-ip.pend0 h];exact ip.nbP 0 []
theorem Xvf{kv:Value}{PA:Option Addr}(tb:TB B0 w)(ix:IxV w x f ds kf pf BB tot)(ip:IxP f ds kf pf BB tot L)(hO:tot≠0->∀ z,(Xk f kf pf BB).Gp z->z.length<f->0<(Xk f kf pf BB).pend z.length z->(Xk f kf pf BB).others z.length z<4294967296)(hy:RdR w PA y)(hk:NatV w kv k):
  Ret Tryz.prog 89 [x,.slice PA y.length pc,kv] w λu w'=>Ext w w'/\(f<y.length->u=.tuple #[.slice none 0 0,.int .i64 0,.int .i64 6])/\(y.length<=f->AcRF w f BB L y k u w'):=by
 obtain⟨DA,dc,BA,cb,KA,ck,du,cp,tv,f6,f3,rfl,fk,fl,hD,hB,hK,hP,e3,fa⟩:=id ix.ex;obtain⟨TA,tc,rfl,_⟩:=id e3;obtain⟨kA,bn,rfl,_⟩:=id hk;have f32:=ip.f32;refine enE Tryz.func89 Tryz.ntmps89 ?_;refine bxR ?_;intro w1 b ak hb az;refine Qk az ?_;refine clR (Jlc (ix.ext ak)) ?_;rintro u w2 ⟨rfl,a7⟩;refine ciR (λh=>?_) (λh=>?_)
 .have fe:f<y.length:=by have:=oT h;omega
  refine ρ ?_;exact Vq ⟨ak.trans a7,λ_=>rfl,λh=>om⟩
 have ce:y.length<=f:=by grind
 clear h;refine Qk (az.ext a7) ?_;refine clR (Jhz (ix.ext (ak.trans a7)) ip.nbT) ?_;rintro u w3 ⟨cv,_,b3⟩;have a3:=(ak.trans a7).trans b3;obtain⟨UA,uc,rfl,_⟩:=id cv;refine ciR (λh=>?_) (λh=>?_)
 .have h0:tot=0:=by
   have:=Zv h;grind [Nat.eq_zero_or_pos,tot,limbs_pos']
  refine ρ ?_;refine Vq ⟨a3,λh=>om,λ_=>AcRF.none ?_⟩;have:L=[]:=List.eq_nil_of_length_eq_zero (by rw[<-ip.len];exact h0);rw[this];rfl
 have ne:tot≠0:=λe=>by
  have:=Xo h;grind [limbs_0]
 clear h;refine Qk ((az.ext a7).ext b3) ?_;refine clR (Xvg (tb.ext a3) (ix.ext a3) ip ne) ?_;rintro u w4 ⟨K,⟨e0,rfl,rfl,rfl,rfl,rfl,rfl,rfl⟩,rfl,G,dg,e2⟩;have a2:Ext w K.w0:=by rw[e0];exact a3
 have ek:Blk K.w0 b 55 [.slice DA K.f dc,.slice BA K.f cb,.slice KA K.f ck,.slice du K.f cp,.slice TA (Jq K.tot).length tc]:=by rw[e0];exact(az.ext a7).ext b3
 clear e0 az ak a7 b3 a3 cv;have bw:∀ c,c<K.f->K.pf c<(c:Int):=λc hc=>(G.ip.par ne hc).2;have b6:K.X.Ok:=G.ip.ok ne;have d5:∀ v z,(K.t v z).ht<=hmB (K.BB v):=λv z=>Jrr _ _;have be:∀ v z,(K.t v z).ht<=65536:=λv z=>nL (Tr.ht_le _) (G.ip.siz _ _);have ap:∀ v z,Nb (K.t v z).sum:=λv z=>Nb.pow (k:=1) (by rw[Nat.pow_one];exact G.ip.big _ _) om;have cx:∀ v z,(K.t v z).sz<=1000000:=λv z=>nL (G.ip.siz _ _) (by decide);refine ρ ?_;refine Jo (fun (i:Nat) (st:Nat)=>[(2,.slice kA (Jq k).length bn),(3,.pointer (some ⟨b,0,none⟩)),(6,.slice none 0 0),(7,.int .i64 0),(8,.int .i64 0),(9,.pointer (some ⟨K.sb,0,none⟩)),(35,.slice PA y.length pc),(36,.int .i64 (y.length:Int)),(37,.int .i64 (i:Int))])
  (λi st w'=>i<=y.length/\K.X.Gp (y.take i)/\SeV K w' (y.take i) (pS K.pf i i) st (32*(i+1)) w'.heap.size/\st<=Qc i (λv=>hmB (K.BB v))/\st<=65536*i) (λi _=>y.length-i) 0 0 sB
  ⟨Nat.zero_le _,AX.Gp.nil,dg,Nat.le_refl _,Nat.le_refl _⟩ ?_
 clear dg e2 w4;rintro i st w5 ⟨hi,ar,O,bs,br⟩;have bo:=a2.trans (O.ext0 G);have aq:(y.take i).length=i:=by rw[List.length_take];omega
 refine ciR (λh=>?_) (λh=>?_)
 .have li:i<y.length:=by have:=oT h;omega
  have ef:i<K.f:=om
  clear h;have ch:=Rd.ext hy bo;refine Qu 3 i ch li ?_;refine Jt (cs:=(y.getD i V0).cells) (λj u' am=>RdR.cell ch li am) ?_;refine Jv (cs:=V0.cells) Gj ?_;intro w6 dt Z de b1;refine Qw (cs':=(y.getD i V0).cells) b1 ?_ (V.one _);intro w7 el c6 a6;have cj:Ext w5 w7:=a6 w5 Z de;have ac:Ext w7 w7.drew:=(Ext.refl w7).drew;have a4:=(O.ext cj).ext ac;have bj:=el.ext ac;have eo:K.mb<w5.heap.size:=by obtain⟨_,_,_,H,_⟩:=O;exact H.map.lt
  have b8:¬ dt=K.mb:=om
  refine ρ ?_;refine drN (λk=>k=K.mb) 10 [(0,0),(0,2),(1,1),(1,3),(0,4),(0,5),(0,6),(0,7),(0,8),(0,9),(0,10)] kr ?_;refine ρn ?_;refine Xs (cs:=(y.getD i V0).cells) (λw' hg j u hu=>(Jc bj hg b8).at hu) ?_;refine ρn ?_;refine nop ?_;refine cl (Qyn G a4 om (by grind [pS])) ?_;rintro u w8 ⟨⟨d,p,rfl,hT,hd⟩,d7,b7⟩;rw[aq]at hT hd b7;refine ρ ?_;refine Qj d7 ?_;refine ρn ?_;refine nop ?_;refine cl (Qvr (hT.ext (b7.ext0 G)) (ap _ _) (cx _ _)) ?_;rintro u w9 ⟨sv,q,rfl,hq,fb,ad⟩;refine ρ ?_;refine Qj (GrN.ext ad) ?_;refine ρn ?_;have da:=G.has ef (z:=y.take i) hd (y.getD i V0);refine ciR (λh=>?_) (λh=>?_)
  .have e9:¬ K.X.Gp y:=λhg=>by
    have h1:=hg i li;grind
   refine ρ ?_;refine Vq ⟨a2.trans ((b7.ext ad).ext0 G),λh=>om,λ_=>AcRF.none ?_⟩;rw[G.ip.wi_none ne e9];rfl
  have cg:Tr.hasT d (y.getD i V0) (K.t i (y.take i))=true:=by grind
  clear h;have d0:=da.1 cg;have av:=b7.ext ad;have c9:=(Jc bj d7 b8).ext ad;obtain⟨yv,mm,fm,H9,d1⟩:=id av;refine ldR (H9.blk.at (i:=8) rfl) ?_;have e6:=d5 i (y.take i);have e5:=be i (y.take i);refine Xq (H9.blk.at (i:=8) rfl) (H9.blk.frozen 8) ?_;obtain⟨bi,bf⟩:=av.steps G q;obtain⟨af,bb⟩:∃ af,af=w9.setCell ((⟨K.sb,0,none⟩:Addr).add 8) (.int .i64 ((st+q:Nat):Int)):=⟨_,rfl⟩;have bq:w9.setCell ((⟨K.sb,0,none⟩:Addr).add 8) (.int .i64 ((st:Int)+(q:Int)))=af:=bb.symm;rw[<-bb]at bi bf;have bm:¬ dt=K.sb:=λe=>by have:=d1.1;omega
  have dq:=Jc c9 bf bm;refine Eq.mpr (congrArg _ bq) ?_;refine Jt (cs:=(y.getD i V0).cells) (λj u' am=>dq.at am) ?_;have cw:y.take (i+1)=y.take i++[y.getD i V0]:=Qs V0 li;have ae:K.X.Gp (y.take i++[y.getD i V0]):=ar.snoc (by rw[aq];exact d0);refine cl (Qyp G (bi.same λc _=>Jgr) om om (y.getD i V0) ae (λc _ hs=>by
   rw[aq];unfold pS at hs;grind)) ?_
  rintro u dw ⟨rfl,_,a5⟩;rw[<-cw,aq]at a5;rw[<-cw]at ae;refine ρ ?_;refine Jl (i+1) (st+q) sO ⟨li,ae,(a5.same λc hc=>Jgs (bw c hc)).more om,?_,om⟩ om;rw[Qc];omega
 have eg:i=y.length:=by grind
 subst eg;clear h;rw[List.take_length]at ar O;refine clR (Qyq G O) ?_;rw[Qjl];rintro u w6 ⟨cr,d9,Z⟩;refine clR (Uv (hk.ext (bo.trans Z)) cr) ?_;rintro u w7 ⟨rfl,a6⟩;have a4:=(O.ext Z).ext a6;have cq:=G.ip.wi_some ne ce ar;have co:(wiL K.L y).length=K.X.pend y.length y:=by
  rw[cq];exact b6.ext_len _ y (by show y.length+(K.f-y.length)=K.f;omega)
 refine ciR (λh=>?_) (λh=>?_)
 .have eh:K.X.pend y.length y<=k:=by
   have:=oT h;rcases Nat.lt_or_ge k (K.X.pend y.length y) with h'|h'
   .have:=cmpN_lt.2 h';omega
   exact h'
  refine ρ ?_;exact Vq ⟨a2.trans (a4.ext0 G),λh=>om,λ_=>AcRF.none (List.getElem?_eq_none (by rw[co];exact eh))⟩
 have c5:k<K.X.pend y.length y:=by
  rcases Nat.lt_or_ge k (K.X.pend y.length y) with h'|h'
  .exact h'
  exact absurd (Int.not_lt.1 λem=>by have:=cmpN_lt.1 em;omega) (oF h)
 clear h;obtain⟨r,hr⟩:∃ r,(wiL K.L y)[k]?=some r:=⟨_,List.getElem?_eq_getElem (by rw[co];exact c5)⟩;have d4:NatX (λq=>q=K.mb) w7 (.slice kA (Jq k).length bn) k:=(NatX.old (N:=λ_=>False) ⟨hk,λ_ _ _ _ _ h=>h⟩ λq hq=>.inr (by rw[hq];exact nL a2.size G.m1)).ext (a2.trans (a4.ext0 G));refine ρ ?_;refine Jxg (fun (z:Row) (st:Nat) (D:Nat) (kv:Value)=>[(2,kv),(3,.pointer (some ⟨b,0,none⟩)),(6,.slice none 0 0),(7,.int .i64 0),(8,.int .i64 0),(9,.pointer (some ⟨K.sb,0,none⟩))])
  (λz st D kv w'=>z.length<=K.f/\K.X.Gp z/\D<K.X.pend z.length z/\(K.X.ext (K.f-z.length) z)[D]?=some r/\SeV K w' z (pS K.pf z.length z.length) st (32*(z.length+1)) w'.heap.size/\NatX (λq=>q=K.mb) w' kv D/\st<=Qc z.length (λv=>hmB (K.BB v))/\st<=65536*z.length) (λz _ _ _=>K.f-z.length) y st k (.slice kA (Jq k).length bn) sB
  ⟨ce,ar,c5,by rw[<-hr,cq];rfl,a4.top,d4,bs,br⟩ ?_
 clear d4 c5 a4 a6 Z d9 cr w7 w6 bs br bo O w5 st aq hi ar;rintro z st D kv w5 ⟨hz,d6,ee,f7,O,d3,bs,br⟩;have ac:Ext w5 w5.drew:=(Ext.refl w5).drew;have ay:=O.ext ac;obtain⟨yv,mm,fm,H,eb⟩:=id ay;obtain⟨YA,yc,rfl,f9,_⟩:=Jy H.row;have ag:=ay.ext0 G;have dj:=ek.ext ag;refine drR (scq 8 [6]) ?_;refine Jz (H.blk.at (i:=6) rfl) ?_;refine Qz (cs:=[.slice DA K.f dc,.slice BA K.f cb,.slice KA K.f ck,.slice du K.f cp,.slice TA (Jq K.tot).length tc]) (λj u hu=>dj.at hu) ?_;refine Jh (Jlc (ix.ext (a2.trans ag))) ?_;rintro u w6 ⟨rfl,Z⟩;refine⟨Z,?_⟩;have df:=ay.ext Z;have d2:=(d3.ext ac).ext Z;clear dj ag;refine ρd ?_;refine ciR (λh=>?_) (λh=>?_)
 .have lz:z.length<K.f:=by have:=oT h;omega
  clear h;refine clR (Qyn G df lz (by unfold pS;simp[bw _ lz])) ?_;rintro u w7 ⟨⟨d,p,rfl,hT,hd⟩,c6,a4⟩;refine Jv Vn ?_;intro w8 fr e1 dd dm;refine Zk dm ?_;intro w9 c9 fg ad;have ah:Ext w7 w9:=ad w7 e1 dd;have av:SeV K w9 z (pS K.pf (z.length+1) z.length) st (32*(z.length+1)) w5.heap.size:=(a4.ext ah).same λc _=>Jgr;refine clR (Qyq G av) ?_;rw[Qjm];rintro uo af ⟨bd,ei,aa⟩;have ab:=b6.others_le lz (show 0<K.X.pend z.length z by omega);have ej:=hO ne z d6 lz (show 0<K.X.pend z.length z by omega);have c4:NatV af kv D:=(((d2.gr c6).ext ah).ext aa).1;have ao:Nb D:=(G.pnb z.length z).le om;refine clR (Qpr c4 bd ao.len ab.1 ej) ?_;rintro u dw ⟨⟨qv,rv,rfl,bc,cz⟩,a9⟩;refine ρ ?_;have hq:D / K.X.others z.length z<(K.t z.length z).sum:=by
   rw[Nat.div_lt_iff_lt_mul ab.1,<-K.T,<-b6.pend_split lz];exact ee
  have b1:=(c9.ext aa).ext a9;refine Qk b1 ?_;refine ρ ?_;have a5:=(av.ext aa).ext a9;refine cl (Xjj (hT.ext (a5.ext0 G)) bc hq (ap _ _) (cx _ _)) ?_;rintro u bl ⟨sv,n,rfl,hn,cy,aj⟩;refine Jv (cs:=V0.cells) Gj ?_;intro f0 en cn db dk;refine Qw (cs':=(Tr.findT (D / K.X.others z.length z) (K.t z.length z)).1.cells) dk ?_ (V.one _);intro dv dn er cm;have J:Ext bl dv:=cm bl cn db;obtain⟨l1,l2,yy,hL,c1,ed,ec⟩:=Tr.findT_eq hq;have fd:=ap z.length z;have e8:Nb (D / K.X.others z.length z):=ao.le (Nat.div_le_self _ _);have e4:D / K.X.others z.length z-(Tr.findT (D / K.X.others z.length z) (K.t z.length z)).2<=D:=nL (Nat.sub_le _ _) (Nat.div_le_self _ _);refine clR (Jhg (bc.ext (aj.trans J)) (cy.ext J) e8.len) ?_;rintro u ez ⟨⟨ov,rfl,e7,fh⟩,ai⟩;rw[if_neg (show¬ D / K.X.others z.length z<(Tr.findT (D / K.X.others z.length z) (K.t z.length z)).2 by omega)];refine ρ ?_;have a1:=(aj.trans J).trans ai
  refine cl (Jzm e7 (bd.ext (a9.trans a1)) (ao.le e4).len (Nb.len ((G.pnb z.length z).le ab.2))) ?_;rintro mv ey ⟨ea,fi,a8⟩;have ff:(D / K.X.others z.length z-(Tr.findT (D / K.X.others z.length z) (K.t z.length z)).2)*K.X.others z.length z+D % K.X.others z.length z<=D:=by
   have h1:=Nat.div_add_mod D (K.X.others z.length z);have h2:=nO (K.X.others z.length z) (Nat.sub_le (D / K.X.others z.length z) (Tr.findT (D / K.X.others z.length z) (K.t z.length z)).2);grind
  refine clR (Gt ea (cz.ext (a1.trans a8)) (ao.le om).len (ao.le (Nat.mod_le _ _)).len) ?_;rintro cd cc ⟨c3,c8,b9⟩;have b4:=(a1.trans a8).trans b9;have bh:=a5.ext b4;obtain⟨eu,f5,fq,ca,bz⟩:=id bh;have e6:=d5 z.length z;have e5:=be z.length z;refine ldR (ca.blk.at (i:=8) rfl) ?_;refine Xq (ca.blk.at (i:=8) rfl) (ca.blk.frozen 8) ?_;obtain⟨bg,au⟩:=bh.steps G n;obtain⟨b2,ba⟩:∃ b2,b2=cc.setCell ((⟨K.sb,0,none⟩:Addr).add 8) (.int .i64 ((st+n:Nat):Int)):=⟨_,rfl⟩;have bp:cc.setCell ((⟨K.sb,0,none⟩:Addr).add 8) (.int .i64 ((st:Int)+(n:Int)))=b2:=ba.symm;rw[<-ba]at bg au;have f2:w5.heap.size<=bl.heap.size:=nL (nL ac.size (Z.size)) (nL c6.size (((ah.trans aa).trans a9).trans aj).size);have bm:¬ en=K.sb:=λe=>by have:=bz.1;omega
  have dl:=Jc (dn.ext ((ai.trans a8).trans b9)) au bm;refine Eq.mpr (congrArg _ bp) ?_;refine Jt (cs:=(Tr.findT (D / K.X.others z.length z) (K.t z.length z)).1.cells) (λj u' am=>dl.at am) ?_;have di:K.X.E z.length (K.X.key z.length z)=l1++((Tr.findT (D / K.X.others z.length z) (K.t z.length z)).1,yy)::l2:=by rw[K.E];exact hL
  have an:=b6.ext_at (n:=K.f-(z.length+1)) (y:=z) (by show z.length+(K.f-(z.length+1)+1)=K.f;omega) di ab.1 (by rw[c1];exact ed) (by rw[c1];exact ec);rw[c1]at an;have ae:K.X.Gp (z++[(Tr.findT (D / K.X.others z.length z) (K.t z.length z)).1]):=d6.snoc (by rw[di];simp);have b5:(z++[(Tr.findT (D / K.X.others z.length z) (K.t z.length z)).1]).length=z.length+1:=by simp
  refine cl (Qyp G bg om lz _ ae (λc _ hs=>by
   unfold pS at hs;grind)) ?_
  rintro u ew ⟨rfl,d8,dh⟩;refine ρ ?_;have c2:NatX (λq=>q=K.mb∨q<w5.heap.size) b2 cd _:=(c8.x (N:=λq=>q=K.mb∨q<w5.heap.size∨q=K.sb) c3 λq hq=>by
   have h1:=(J.trans (ai.trans a8)).size;have h2:=eb.1;rcases hq with h|h|h
   .rw[h];have:=O.ext0 G;obtain⟨_,_,_,H5,_⟩:=O;have:=H5.map.lt;omega
   .omega
   omega) |>.gr (au.mono λq _ h=>.inr (.inr h)) |>.old λq hq=>.inl (by grind)
  refine Kf (z++[(Tr.findT (D / K.X.others z.length z) (K.t z.length z)).1]) (st+n) ((D / K.X.others z.length z-(Tr.findT (D / K.X.others z.length z) (K.t z.length z)).2)*K.X.others z.length z+D % K.X.others z.length z) cd sO
   ⟨by rw[b5];omega,ae,by rw[b5];exact an.2,?_,?_,(c2.gr (d8.mono λq _ h=>.inr h)).old λq hq=>.inl (.inl hq),?_,?_⟩ (by rw[b5];omega)
  .grind
  .rw[b5];exact(dh.same λc hc=>Jgs (bw c hc)).more om
  repeat grind [Qc]
 have f8:z.length=K.f:=by have:=oF h;omega
 clear h;have dz:Ext w6 w6.drew:=(Ext.refl w6).drew;have ax:=df.ext dz;obtain⟨et,f4,fp,H3,ep⟩:=id ax;obtain⟨YB,yd,rfl,dx,_⟩:=Jy H3.row;refine drR [(0,0),(0,1),(0,2),(0,3),(0,5),(0,6),(0,7),(0,8),(1,4),(0,9),(0,10),(0,11)] ?_;refine Jz (H3.blk.at (i:=6) rfl) ?_;refine Jz (H3.blk.at (i:=8) rfl) ?_;refine Jh (Ye (r:=z) ⟨YB,yd,rfl,dx,om,Rd.own H3.row⟩ (λq=>q<w.heap.size) (λq hq=>nM hq (a2.trans (ax.ext0 G)).size)) ?_;rintro u w7 ⟨⟨A7,c7,rfl,fn,_,fo,fj⟩,a6⟩;refine⟨a6,?_⟩;refine ρd ?_;refine ρ ?_;refine Vq ⟨a2.trans ((ax.ext a6).ext0 G),λh=>om,λ_=>?_⟩;have fc:r=z:=by
  have e:K.f-z.length=0:=om
  grind [AX.ext]
 grind [AcRF,Nat.le_of_not_lt]
end
open Go.RowKit Pl Go.Wk
variable {k pc:Nat}
structure IxA(w:World)(x:Value)(f:Nat)(ds:List Bool)(kf:Nat->Nat)(pf:Nat->Int)(BB:Nat->List BkT)(tot:Nat)(L:List Row): Prop where
 tb:∃ B0,TB B0 w
 ix:IxV w x f ds kf pf BB tot
 ip:IxP f ds kf pf BB tot L
 ho:tot≠0->∀ z,(Xk f kf pf BB).Gp z->z.length<f->0<(Xk f kf pf BB).pend z.length z->(Xk f kf pf BB).others z.length z<4294967296
 hb:∀ v b,b∈BB v->b.2.ht<=65536
section
variable {w:World} {x:Value} {f:Nat} {ds:List Bool} {kf:Nat->Nat} {pf:Nat->Int} {BB:Nat->List BkT} {tot:Nat} {L:List Row}
theorem IxA.ext(h:IxA w x f ds kf pf BB tot L){w':World}(hx:Ext w w'): IxA w' x f ds kf pf BB tot L:=by
 obtain⟨i,ht⟩:=h.tb;exact⟨⟨i,ht.ext hx⟩,h.ix.ext hx,h.ip,h.ho,h.hb⟩
theorem Qcg(L:List Row): wiL L []=L:=by simp[wiL]
theorem Qcd(h:IxA w x f ds kf pf BB tot L){y:Row}{PA:Option Addr}{kv:Value}(hy:RdR w PA y)(hk:NatV w kv k):
  Ret Tryz.prog 89 [x,.slice PA y.length pc,kv] w λu w'=>Ext w w'/\(f<y.length->u=.tuple #[.slice none 0 0,.int .i64 0,.int .i64 6])/\(y.length<=f->AcRF w f BB L y k u w'):=by
 obtain⟨i,ht⟩:=h.tb;exact Xvf ht h.ix h.ip h.ho hy hk
def Jkl(w0:World)(f:Nat)(BB:Nat->List BkT)(L:List Row)(k:Nat)(u:Value)(w:World): Prop:=match L[k]? with
 | some r=>∃ A c,∃ st:Nat,u=.tuple #[.slice A r.length c,.int .i64 (st:Int),.int .i64 0]/\RdR w A r/\r.length<=c/\r.length=f/\(st<=Qc f λv=>hmB (BB v))/\(r≠[]->∀ ad,A=some ad->w0.heap.size<=ad.block)
 | none=>u=.tuple #[.slice none 0 0,.int .i64 0,.int .i64 3]
theorem Xwq(h:IxA w x f ds kf pf BB tot L){kv:Value}(hk:NatV w kv k):
  Ret Tryz.prog 31 [x,kv] w λu w'=>Ext w w'/\Jkl w f BB L k u w':=by
 obtain⟨DA,dc,BA,cb,KA,ck,PA,cp,tv,Z,O,rfl,a2,a3,hD,hB,hK,hP,G,a1⟩:=id h.ix.ex;obtain⟨TA,tc,rfl,_⟩:=id G;refine enE Tryz.func31 Tryz.ntmps31 ?_;refine bxR ?_;intro w1 b i hb J;refine Qk J ?_;refine clR (Qcd (y:=[]) (PA:=none) (pc:=0) (h.ext i) Rd.nil (hk.ext i)) ?_;rintro u w2 ⟨D,_,h2⟩;have j:=h2 (Nat.zero_le _);unfold AcRF at j;rw[Qcg]at j;cases hr:L[k]? with
 | none=>
  rw[hr]at j;simp only at j;subst j;refine ρ ?_;refine Vq ⟨i.trans D,?_⟩;unfold Jkl;rw[hr]
 | some r=>
  rw[hr]at j;simp only at j;obtain⟨A,c,st,rfl,h5,h6,h7,h8,h9⟩:=j;refine ρ ?_;refine Vq ⟨i.trans D,?_⟩;unfold Jkl;rw[hr];exact⟨A,c,st,rfl,h5,h6,h7,h8,λh0 ad e=>nL i.size (h9 h0 ad e)⟩
end
end Go.Proofs.YtgobkbeokaaplaaGreatDoor
