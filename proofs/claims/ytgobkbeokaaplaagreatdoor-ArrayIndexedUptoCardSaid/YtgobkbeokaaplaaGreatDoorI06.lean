/- Part 6. -/
import Derived.Test.YtgobkbeokaaplaaGreatDoorI05
set_option linter.unusedVariables false
set_option maxRecDepth 100000
set_option maxHeartbeats 40000000
namespace Go.Proofs.YtgobkbeokaaplaaGreatDoor
open Pl Go.Wk
variable {c i s t u v:Nat}
structure ElR(n f m:Nat)(es perm:List Nat)(vars:Nat->List Nat)(rs:Nat->List Row)(kf:Nat->Nat)(pf:Nat->Int)(R:Nat->List Row): Prop where
 pm:PermOk n f perm
 n32:n<=32
 lt:∀ i,i<m->∀ v∈vars i,v<n
 len:∀ i,i<m->∀ r∈rs i,r.length=(vars i).length
 el:es.length=m
 eb:∀ i,i<m->∀ u,(es.getD i 0).testBit u=true↔u∈vars i
 ep:∀ e∈es,e<2^n
 bags:Jvr n es (Xd perm f) kf pf
 rows:∀ v,v<n->Jcn n m vars rs (kf v ||| 2^v) (R v)
section
variable {n f m:Nat} {es perm:List Nat} {vars:Nat->List Nat} {rs:Nat->List Row} {kf:Nat->Nat} {pf:Nat->Int} {R:Nat->List Row} {ds:List Bool}
abbrev plO(perm:List Nat)(f:Nat): Nat->Nat:=plc (Xd perm f)
theorem PermOk.plN(h:PermOk n f perm)(hv:v<n): plO perm f v<n:=by
 have:=(Gl h.ond (h.omem.2 hv)).1;rw[h.olen]at this;exact this
theorem PermOk.inj(h:PermOk n f perm)(hu:u<n)(hv:v<n)(e:plO perm f u=plO perm f v): u=v:=by
 rw[<-(Gl h.ond (h.omem.2 hu)).2,<-(Gl h.ond (h.omem.2 hv)).2];show(Xd perm f).getD (plO perm f u) 0=(Xd perm f).getD (plO perm f v) 0;rw[e]
theorem PermOk.hits(h:PermOk n f perm)(hi:i<n): ∃ v,v<n/\plO perm f v=i:=by
 have j:i<(Xd perm f).length:=by rw[h.olen];exact hi
 exact⟨(Xd perm f).getD i 0,h.olt (getD_mem' 0 _ j),Jjx h.ond j⟩
theorem PermOk.plPerm(h:PermOk n f perm)(hi:i<perm.length): plO perm f (perm.getD i 0)=i:=by
 have j:i<(Xd perm f).length:=by simp[Xd];omega
 have e:(Xd perm f).getD i 0=perm.getD i 0:=by simp[Xd,List.getD,List.getElem?_append_left hi]
 rw[<-e];exact Jjx h.ond j
theorem PermOk.plFree(h:PermOk n f perm)(hu:u<f): plO perm f u=perm.length+(f-1-u):=by
 have i:perm.length+(f-1-u)<(Xd perm f).length:=by simp[Xd];omega
 have e:(Xd perm f).getD (perm.length+(f-1-u)) 0=u:=by
  simp only[Xd,List.getD];rw[List.getElem?_append_right om,Nat.add_sub_cancel_left,List.getElem?_reverse (by simp;omega),List.length_range,List.getElem?_range om];simp only[Option.getD_some];omega
 have:=Jjx h.ond i;rw[e]at this;exact this
theorem PermOk.plLow(h:PermOk n f perm)(hu:u<f)(hv:f<=v)(hn:v<n): plO perm f v<plO perm f u:=by
 have o:v∈perm:=by
  have:=h.omem.2 hn;rcases List.mem_append.1 this with j|j
  .exact j
  have:=List.mem_range.1 (List.mem_reverse.1 j);omega
 obtain⟨i,hi,e⟩:=List.getElem_of_mem o;have j:=h.plPerm hi;rw[Qv 0 _ hi,e]at j;rw[j,h.plFree hu];omega
theorem ElR.inv(h:ElR n f m es perm vars rs kf pf R): NbInv [] (nb0 n es):=Qjl h.ep
theorem ElR.kbit(h:ElR n f m es perm vars rs kf pf R)(hv:v<n)(hu:(kf v).testBit u=true): u<n/\plO perm f v<plO perm f u:=by
 obtain⟨_,G,_⟩:=h.bags v hv;rw[G]at hu;have i:u<n:=Jbm (nb:=nb0 n es) (ord:=Xd perm f) (N:=n) (λa b j=>(Jzf h.ep j).2.1) hu;obtain⟨D,C⟩:=Jhb h.inv h.pm.ond (h.pm.omem.2 hv) hu;have o:=(Jgx h.pm.ond (h.pm.omem.2 hv) (h.pm.omem.2 i)).1 D;refine⟨i,?_⟩;rcases Nat.lt_or_ge (plO perm f v) (plO perm f u) with h6|h6
 .exact h6
 exact absurd (h.pm.inj i hv (Nat.le_antisymm h6 o)) C
theorem ElR.kmem(h:ElR n f m es perm vars rs kf pf R)(hv:v<n): u∈bk (kf v) 32↔(kf v).testBit u=true:=by
 rw[bk_mem];have:=h.n32;exact⟨λi=>i.2,λi=>⟨by have:=(h.kbit hv i).1;omega,i⟩⟩
theorem ElR.par(h:ElR n f m es perm vars rs kf pf R)(hv:v<n): (pf v = -1/\∀ u,(kf v).testBit u=false)∨∃ p:Nat,pf v=p/\(kf v).testBit p=true/\∀ u,(kf v).testBit u=true->plO perm f p<=plO perm f u:=by
 obtain⟨_,o,i⟩:=h.bags v hv;rcases i with⟨i,j⟩|⟨p,i,j,h5⟩
 .exact .inl ⟨i,λu=>by rw[o];exact j u⟩
 exact .inr ⟨p,i,by rw[o];exact j,λu C=>h5 u (by rw[<-o];exact C)⟩
theorem ElR.chf(h:ElR n f m es perm vars rs kf pf R): ChF n pf (plO perm f):=λc v o j=>by
 rcases h.par o with⟨i,_⟩|⟨p,i,h2,_⟩
 .rw[i]at j;omega
 have e:p=v:=by rw[i]at j;omega
 subst e;exact h.kbit o h2
theorem ElR.sub(h:ElR n f m es perm vars rs kf pf R)(hc:c<n)(hp:pf c=(v:Int))(hu:(kf c).testBit u=true): (kf v ||| 2^v).testBit u=true:=by
 have j:=(h.chf c v hc hp).1;rw[Nat.testBit_or,Nat.testBit_two_pow,Bool.or_eq_true,decide_eq_true_eq];by_cases e:u=v
 .exact .inr e.symm
 refine .inl ?_;obtain⟨_,C,_⟩:=h.bags c hc;obtain⟨_,o,_⟩:=h.bags v j;rcases h.par hc with⟨D,_⟩|⟨p,D,h2,h3⟩
 .rw[D]at hp;omega
 have ev:p=v:=by rw[D]at hp;omega
 subst ev;rw[o];refine Qrk h.inv h.pm.ond (h.pm.omem.2 hc) (h.pm.omem.2 j) (by rw[<-C];exact h2) (λx G=>?_) (by rw[<-C];exact hu) e;have i:(kf c).testBit x=true:=by rw[C];exact G
 exact(Jgx h.pm.ond (h.pm.omem.2 j) (h.pm.omem.2 (h.kbit hc i).1)).2 (h3 x i)
theorem Qsm(h:∀ u,t.testBit u=true->s.testBit u=true): inS (bk s 32) t=bk t 32:=by
 unfold inS bk;rw[List.filter_filter];refine List.filter_congr λu _=>?_;cases e:t.testBit u with
 | false=>simp
 | true=>simp[h u e]
theorem Jfz(h:∀ u,t.testBit u=true->s.testBit u=true)(z:Row): pmR (Xj (bk s 32) t) (pmR (bk s 32) z)=pmR (bk t 32) z:=by
 have:=Jtq (bk s 32) t z (bk s 32).length (nR _);rw[List.take_length,Qsm h]at this;exact this
theorem ElR.last(h:ElR n f m es perm vars rs kf pf R)(hv:v<f): bk (kf v ||| 2^v) 32=bk (kf v) 32++[v]:=by
 have hn:=h.n32;have C:=h.pm.fn;have i:∀ u,(kf v).testBit u=true->u<v:=λu o=>by
  obtain⟨j,D⟩:=h.kbit om o;rcases Nat.lt_or_ge u f with h3|h3
  .rw[h.pm.plFree hv,h.pm.plFree h3]at D;omega
  have:=h.pm.plLow hv h3 j;omega
 have e:∀ k,bk (kf v ||| 2^v) k=bk (kf v) k++if v<k then[v] else[]:=by
  intro k;induction k with
  | zero=>rfl
  | succ k ih=>
   rw[Gg,Gg,ih,Nat.testBit_or,Nat.testBit_two_pow];by_cases e:v=k
   .subst e;rw[if_neg (Nat.lt_irrefl v),if_pos (Nat.lt_succ_self v)];have:(kf v).testBit v=false:=by
     cases hb:(kf v).testBit v with
     | false=>rfl
     | true=>have:=i v hb;omega
    rw[this];simp
   rw[decide_eq_false e,Bool.or_false];by_cases hb:(kf v).testBit k=true
   .have:=i k hb;rw[if_pos hb,if_neg om,if_neg om,List.append_nil,List.append_nil]
   rw[if_neg hb,List.append_nil,List.append_nil];by_cases j:v<k
   .rw[if_pos j,if_pos om]
   rw[if_neg j,if_neg om]
 rw[e,if_pos om]
theorem ElR.lastC(h:ElR n f m es perm vars rs kf pf R){v:Nat}(hv:v<f): lastC kf v=(bk (kf v) 32).length/\(bk (kf v ||| 2^v) 32).length=(bk (kf v) 32).length+1:=by
 unfold Go.Proofs.YtgobkbeokaaplaaGreatDoor.lastC;rw[h.last hv];simp
theorem ElR.rlt(h:ElR n f m es perm vars rs kf pf R)(hv:v<f): Lt [] (R v):=(h.rows v (by have:=h.pm.fn;omega)).1
theorem ElR.rl(h:ElR n f m es perm vars rs kf pf R)(hv:v<f): ∀ y∈R v,y.length=Go.Proofs.YtgobkbeokaaplaaGreatDoor.lastC kf v+1:=λy i=>by
 obtain⟨z,_,rfl,_⟩:=((h.rows v (by have:=h.pm.fn;omega)).2.1 y).1 i;rw[Qn,(h.lastC hv).2,(h.lastC hv).1]
theorem ElR.big(h:ElR n f m es perm vars rs kf pf R)(c:Nat)(k:Row): TV n f kf pf R ds (plO perm f) c k<=4294967296^20 :=
 Xww h.chf h.pm.fn h.n32 (λc C=>by
  rcases h.par C with⟨o,_⟩|⟨p,o,h2,_⟩
  .exact .inl o
  exact .inr ⟨p,o,(h.kbit C h2).1⟩) (λu v D j=>h.pm.inj D j) (λi hi=>h.pm.hits hi) (λv j=>h.pm.plN j) (λv j=>h.rlt j) (λv j=>h.rl j) (λv j=>(h.rows v j).2.2) c k
noncomputable def Jkc(n f m:Nat)(perm:List Nat)(vars:Nat->List Nat)(rs:Nat->List Row)(kf:Nat->Nat)(pf:Nat->Int)(R:Nat->List Row)(ds:List Bool): BX V :=
 ⟨V0,n,f,λv=>bk (kf v) 32,pf,plO perm f,(List.range m).map λi=>(vars i,rs i),TV n f kf pf R ds (plO perm f),
  λv k=>entK (Vr (ds.getD v false) (λx=>wtL (TV n f kf pf R ds (plO perm f)) x (chK kf pf v n)) (Go.Proofs.YtgobkbeokaaplaaGreatDoor.lastC kf v) (R v)) k⟩
theorem ElR.W(h:ElR n f m es perm vars rs kf pf R){T:Nat->Row->Nat}{v:Nat}(z:Row): ∀ k,k<=n->wtL T (pmR (bk (kf v ||| 2^v) 32) z) (chK kf pf v k)=Jg k λc=>if pf c=(v:Int) then T c (pmR (bk (kf c) 32) z) else 1
 | 0,_=>rfl
 | k+1,hk=>by
  rw[Jcc,Jkl,h.W z k om,Jg];congr 1
  split
  .rename_i hp;rw[wtL,wtL,Nat.mul_one,Jfz λu hu=>h.sub om hp hu]
  rfl
theorem ElR.bag(h:ElR n f m es perm vars rs kf pf R)(hv:v<n)(z:Row): Ij m vars rs (kf v ||| 2^v) z↔(Jkc n f m perm vars rs kf pf R ds).bag v z:=by
 have key:∀ i j,i<m->j<(vars i).length->((kf v ||| 2^v).testBit ((vars i).getD j 0)=true↔((vars i).getD j 0=v∨(vars i).getD j 0∈bk (kf v) 32)):=λi j hi u=>by
  rw[h.kmem hv,Nat.testBit_or,Nat.testBit_two_pow,Bool.or_eq_true,decide_eq_true_eq];constructor
  .rintro(o|o)
   .exact .inr o
   exact .inl o.symm
  rintro(o|o)
  .exact .inr o.symm
  exact .inl o
 constructor
 .intro G a O;obtain⟨i,hi,rfl⟩:=List.mem_map.1 O;have hi:=List.mem_range.1 hi;obtain⟨r,D,J⟩:=G i hi;exact⟨r,D,λj u C=>J j u ((key i j hi u).2 C)⟩
 intro G i hi;obtain⟨r,D,J⟩:=G (vars i,rs i) (List.mem_map.2 ⟨i,List.mem_range.2 hi,rfl⟩);exact⟨r,D,λj u C=>J j u ((key i j hi u).1 C)⟩
theorem ElR.ok(h:ElR n f m es perm vars rs kf pf R): (Jkc n f m perm vars rs kf pf R ds).Ok:=by
 have a4:=h.pm.fn;have hn:=h.n32;refine⟨a4,λv C=>h.pm.plN C,λu v G C e=>h.pm.inj G C e,λv C u G=>h.kbit C ((h.kmem C).1 G),λv C=>?_,λv C p hp x hx=>?_,λa ha v a1 U u O=>?_,λu v G a9=>?_,λu v G C j=>h.pm.plLow G C j,λa ha=>?_,λv hf C k=>?_,λv C k=>?_⟩
 .rcases h.par C with⟨D,J⟩|⟨p,D,J,h3⟩
  .refine .inl ⟨?_,D⟩;refine List.eq_nil_iff_forall_not_mem.2 λu G=>?_;have:=(h.kmem C).1 G;rw[J u]at this;cases this
  exact .inr ⟨p,D,(h.kmem C).2 J,λu G=>h3 u ((h.kmem C).1 G)⟩
 .have a2:pf v=(p:Int):=hp;have D:=h.sub C a2 ((h.kmem C).1 hx);rw[Nat.testBit_or,Nat.testBit_two_pow,Bool.or_eq_true,decide_eq_true_eq]at D;rcases D with D|D
  .exact .inr ((h.kmem (h.chf v p C a2).1).2 D)
  exact .inl D.symm
 .obtain⟨i,hi,rfl⟩:=List.mem_map.1 ha;have hi:=List.mem_range.1 hi;simp only at a1 U O;by_cases e:u=v
  .exact .inl e
  refine .inr ?_;have j:=h.lt i hi v a1;have a6:=h.lt i hi u O;have a8:(kf v).testBit u=true:=by
   rw[(h.bags v j).2.1];refine Qrl ?_ e ((Jgx h.pm.ond (h.pm.omem.2 j) (h.pm.omem.2 a6)).2 (U u O));simp only[nb0,Bool.and_eq_true,decide_eq_true_eq,bne_iff_ne,List.any_eq_true];exact⟨⟨j,e⟩,es.getD i 0,getD_mem' 0 es (by rw[h.el];exact hi),(h.eb i hi v).2 a1,(h.eb i hi u).2 O⟩
  exact(h.kmem j).2 a8
 .have a7:u<f:=G;show plO perm f u<plO perm f v;rw[h.pm.plFree a7,h.pm.plFree om];omega
 .obtain⟨i,hi,rfl⟩:=List.mem_map.1 ha;have hi:=List.mem_range.1 hi;exact⟨h.lt i hi,h.len i hi⟩
 .have a5:f<=v:=hf;have o:v<n:=C;refine⟨Jmr h.chf v a5 k,?_⟩;show 0<TV n f kf pf R ds (plO perm f) v k↔_;rw[Jvp h.chf o a5,redT_pos];constructor
  .rintro⟨x,hx,D,J⟩;obtain⟨z,Z,rfl,hb⟩:=((h.rows v o).2.1 x).1 hx;refine⟨z,Z,(h.bag o z).1 hb,?_,?_⟩
   .rw[<-J];exact(Jfz (λu G=>by rw[Nat.testBit_or,G];rfl) z).symm
   rw[h.W z n (nR _)]at D;exact D
  rintro⟨z,Z,hb,J,D⟩;refine⟨pmR (bk (kf v ||| 2^v) 32) z,((h.rows v o).2.1 _).2 ⟨z,Z,rfl,(h.bag o z).2 hb⟩,?_,?_⟩
  .rw[h.W z n (nR _)];exact D
  rw[<-J];exact Jfz (λu G=>by rw[Nat.testBit_or,G];rfl) z
 have o:v<f:=C;have j:v<n:=om
 have hg:=(Jwv (d:=ds.getD v false) (wt:=λx=>wtL (TV n f kf pf R ds (plO perm f)) x (chK kf pf v n)) (h.rlt o) (h.rl o)).entK k;refine⟨?_,λp=>?_⟩
 .show TV n f kf pf R ds (plO perm f) v k=_;rw[Jck h.chf a4 o,Jdj];rfl
 show p∈entK _ k↔_;rw[hg,Qzj,entL_mem];have hl:=h.last o;have a3:=(h.lastC o).1;have e1:∀ z:Row,(pmR (bk (kf v ||| 2^v) 32) z).take (Go.Proofs.YtgobkbeokaaplaaGreatDoor.lastC kf v)=pmR (bk (kf v) 32) z:=λz=>by
  rw[hl,a3];unfold pmR;rw[List.map_append,List.take_left' (by simp)]
 have e2:∀ z:Row,(pmR (bk (kf v ||| 2^v) 32) z).getD (Go.Proofs.YtgobkbeokaaplaaGreatDoor.lastC kf v) V0=z.getD v V0:=λz=>by
  rw[hl,a3];unfold pmR;rw[List.map_append];simp only[List.getD];rw[List.getElem?_append_right (by simp)];simp
 constructor
 .rintro⟨x,hx,D,J,h3,h4⟩;obtain⟨z,Z,rfl,hb⟩:=((h.rows v j).2.1 x).1 hx;refine⟨z,Z,(h.bag j z).1 hb,?_,?_,?_,h4⟩
  .rw[<-D,e1];rfl
  .rw[<-J,e2];rfl
  rw[<-h3,h.W z n (nR _)];rfl
 rintro⟨z,Z,hb,D,J,h3,h4⟩;refine⟨pmR (bk (kf v ||| 2^v) 32) z,((h.rows v j).2.1 _).2 ⟨z,Z,rfl,(h.bag j z).2 hb⟩,?_,?_,?_,h4⟩
 .rw[e1,<-D];rfl
 .rw[e2,<-J];rfl
 rw[h.W z n (nR _),h3];rfl
theorem ElR.srt(h:ElR n f m es perm vars rs kf pf R): (Jkc n f m perm vars rs kf pf R ds).ix.Srt ds:=by
 refine⟨rfl,λv j k=>?_⟩;have i:v<f:=j;show Jjg _ (entK _ k);rw[(Jwv (h.rlt i) (h.rl i)).entK];exact Xjq (Xjd (h.rlt i) (h.rl i) k)
end
open Go.RowKit Pl Go.Wk
attribute [local irreducible] WC WL QX WD WDB WP WN WG
def Ve(n:Nat)(pf:Nat->Int)(T:Nat->Row->Nat)(ats:List Atm): Nat:=if ats.any (λa=>a.rows.isEmpty) then 0 else Jg n λv=>if pf v = -1 then T v [] else 1
theorem Qlc{n k:Nat}{g:Nat->Nat}(hk:k<n)(h:g k=0): Jg n g=0:=by
 rcases Nat.eq_zero_or_pos (Jg n g) with h'|h'
 .exact h'
 have:=prodR_pos.1 h' k hk;omega
theorem Jjw{S:Nat}(hS:1<=S): ∀ {n:Nat} {g:Nat->Nat},(∀ c,c<n->g c<=S)->Jg n g<=S^n
 | 0,_,_=>nR _
 | n+1,g,h=>by
  rw[Jg,Nat.pow_succ];exact Nat.mul_le_mul (Jjw hS λc hc=>h c om) (h n om)
theorem Qcn{B0 n f b cb cv ct:Nat}{kf:Nat->Nat}{pf:Nat->Int}{R:Nat->List Row}{vR Dv Pv Av Kv:Value}{BA VA TA:Option Addr}{wF w:World}{va ta:List Value}{T:Nat->Row->Nat}{ats:List Atm}{AR:Nat->Prop}(hF:FixW B0 n f kf pf R vR BA wF)(hW:BldW wF b n (bCs n f Dv Pv Av BA cb vR VA cv TA ct Kv) VA cv TA ct w va ta)(hAv:GV 3 AtG wF Av ats)(hpf:∀ c,c<n->pf c = -1∨∃ p:Nat,pf c=p)(hdv:∀ c,c<n->f<=c->DnV AR (T c) w (va.getD c (.map none)))(hdt:∀ c,c<n->c<f->DnT AR (T c) w (ta.getD c (.map none)))(hroot:∀ c,c<n->pf c = -1->f<=c->∀ k,0<T c k->k=[])(hT1:∀ c,f<=c->∀ k,T c k<=1)(hTb:∀ c k,T c k<=4294967296^20):
  Ret Tryz.prog 77 [.pointer (some ⟨b,0,none⟩)] w λu w'=>NatV w' u (Ve n pf T ats)/\Fresh w u/\Ext w w':=by
 have ab:Fresh w (.slice none 0 0):=λad m c e=>by cases e
 obtain⟨a5,hB,b1,bi⟩:=hW;have bn:=hF.n32;obtain⟨AA,ac,bz,rfl,bw,bv,bj,bl⟩:=hAv.parts;refine enE Tryz.func77 Tryz.ntmps77 ?_;refine ldR (hB.at (i:=4) rfl) ?_;refine ρ ?_;refine Qy (fun (i:Nat)=>[(0,.pointer (some ⟨b,0,none⟩)),(2,.slice none 0 0),(12,.slice AA ats.length ac),(13,.int .i64 (ats.length:Int)),(14,.int .i64 (i:Int))])
  (λi w'=>i<=ats.length/\Ext w w'/\∀ j (hj:j<ats.length),j<i->ats[j].rows≠[]) (λi=>ats.length-i) 0 sB ⟨Nat.zero_le _,Ext.refl _,λj hj h=>om⟩ ?_
 rintro i w1 ⟨hi,Z,av⟩;refine ciR (λh=>?_) (λh=>?_)
 .have li:i<ats.length:=by have:=oT h;omega
  clear h;have O:=a5.trans Z;obtain⟨ce,bu,⟨⟨t1,t2,t3⟩,rfl,b7⟩,aj⟩:=bl i li;obtain⟨⟨PA,pc,ba,bq,bp,bo⟩,b9,a8⟩:=id b7;simp only at ba b9;obtain⟨a3,PG,a4,bm,b8,_⟩:=id a8;simp only at b8 bm;subst ba;subst b9;subst b8;have aa:∀ j u,([.slice PA ats[i].vars.length pc,.int .i64 (ats[i].ar:Int),.slice PG a3.length a4]:List Value)[j]?=some u->w1.cell? ((adr AA (i*3)).add j)=some u:=λj u hu=>Gf O (aj j u hu);refine Qp 3 i (bj.ext O) li ?_;refine Js (cs:=[.slice PA ats[i].vars.length pc,.int .i64 (ats[i].ar:Int),.slice PG a3.length a4]) aa ?_;refine Jv Yg ?_;intro w2 bb a7 ak am;refine Qb (cs':=[.slice PA ats[i].vars.length pc,.int .i64 (ats[i].ar:Int),.slice PG a3.length a4]) am ?_ (Ig rfl);intro w3 b5 bt J;have U:Ext w1 w3:=J w1 a7 ak;refine Js (cs:=[.int .i64 (ats[i].ar:Int),.slice PG a3.length a4]) (λj u hu=>b5.sub (i:=1) (j:=j) (by rw[Nat.add_comm];exact hu)) ?_;refine clR (Jwb (b7.ext (O.trans U)).rel) ?_
  rintro u w4 ⟨rfl,a6⟩;refine ciR (λh=>?_) (λh=>?_)
  .have h0:ats[i].rows.length=0:=by have:=Zx h;omega
   refine ρ ?_;refine Jj ⟨?_,ab,(Z.trans U).trans a6⟩;grind [Ve,List.any_eq_true.2,List.getElem_mem,List.isEmpty_iff,List.eq_nil_of_length_eq_zero,NatV.nil]
  have h0:ats[i].rows.length≠0:=λe=>by have:=Xu h;omega
  refine ρ ?_;refine Qw (i+1) sO ⟨li,(Z.trans U).trans a6,λj hj br=>?_⟩ om;grind
 have bg:i=ats.length:=by grind
 clear h;have af:ats.any (λa=>a.rows.isEmpty)=false:=by grind [List.any_eq_false,List.getElem_of_mem,List.isEmpty_iff.1]
 have ag:Ve n pf T ats=Jg n λv=>if pf v = -1 then T v [] else 1:=by unfold Ve;rw[af];rfl
 rw[ag];clear ag af av bg;obtain⟨g,hg⟩:∃ g:Nat->Nat,g=λv=>if pf v = -1 then T v [] else 1:=⟨_,rfl⟩
 rw[<-hg];have ax:∀ v,g v<=4294967296^20:=λv=>by grind
 have be:∀ k,k<=n->Nb (Jg k g):=λk hk=>Nb.pow (k:=k) (Jjw (Nat.pow_pos (by decide)) λc _=>ax c) om;have bh:∀ v,Nb (g v):=λv=>Nb.pow (k:=1) (by rw[Nat.pow_one];exact ax v) om;refine clR (Jbf 1 (by decide) _) ?_;rintro vp w2 ⟨au,az,a7⟩;have a1:=Z.trans a7;refine ldR ((hB.ext a1).at (i:=5) rfl) ?_;refine ρ ?_;refine Jo (fun (k:Nat) (vp:Value)=>[(0,.pointer (some ⟨b,0,none⟩)),(2,.slice none 0 0),(5,vp),(27,.slice BA n cb),(28,.int .i64 (n:Int)),(29,.int .i64 (k:Int))])
  (λk vp w'=>k<=n/\Ext w w'/\NatV w' vp (Jg k g)/\Fresh w vp) (λk _=>n-k) 0 vp sB ⟨Nat.zero_le _,a1,au,λad m c e=>nL Z.size (az ad m c e)⟩ ?_
 clear az au a1 a7 vp w2;rintro k vp w3 ⟨hk,J,a2,ai⟩;refine ciR (λh=>?_) (λh=>?_)
 .have lk:k<n:=by have:=oT h;omega
  clear h;have a9:∀ j u,(Qr kf pf k)[j]?=some u->w3.cell? ((adr BA (k*3)).add j)=some u:=λj u hu=>by
   have hj:j<3:=by grind [Nat.lt_or_ge,List.getElem?_eq_none,Qr]
   rw[Xe];exact(hF.bags.ext (a5.trans J)).cell ((Jqr (sz:=3) (λ_ _=>rfl) lk hj).trans hu)
  refine Qp 3 k (hF.bags.ext (a5.trans J)) lk ?_;refine Js (cs:=Qr kf pf k) a9 ?_;refine Jv Jkk ?_;intro w4 bb a6 ak am;refine Qb (cs':=Qr kf pf k) am ?_ Jxz;intro w5 b4 bs bc;have D:Ext w3 w5:=bc w3 a6 ak;have C:=J.trans D;refine ldR (b4.at (i:=2) rfl) ?_;refine ciR (λh=>?_) (λh=>?_)
  .have av:pf k≠-1:=by have:=oT h;omega
   refine ρ ?_;refine Jl (k+1) vp sO ⟨lk,C,?_,ai⟩ om;have e:Jg (k+1) g=Jg k g:=by rw[Jg,hg];grind
   rw[e];exact a2.ext D
  have hp:pf k = -1:=by grind
  have an:g k=T k []:=by grind
  have b6:=hB.ext C;refine ldR (b6.at (i:=1) rfl) ?_;refine ciR (λh=>?_) (λh=>?_)
  .have lf:k<f:=by have:=oT h;omega
   obtain⟨mb,m,fm,e1,e2,⟨e3,e4⟩,e5⟩:=hdt k lk lf;have ah:ta[k]?=some (.map (some mb)):=by grind
   have ao:Ext w5 w5.drew:=(Ext.refl w5).drew;have o:=C.trans ao;have b3:=(Rd.own bi).ext o;have ae:FitR []:=⟨by simp,λv hv=>by cases hv⟩;refine drR (scq 12 [8,10]) ?_;refine Jz ((hB.ext o).at (i:=8) rfl) ?_;refine Jc k b3 lk ?_;refine Jz (b3.cell ah) ?_;refine Jh (Jzn (r:=[]) (A:=none) (c:=0) (hF.tb.ext (a5.trans o)) Rd.nil (λu hu=>by cases hu) (by have:=ae.len;omega) (by simp)) ?_;rintro un w6 ⟨rfl,G⟩;refine⟨G,?_⟩;refine ρd ?_;refine dmlk KS (e3.ext (o.trans G)) zNat (Ga ae) ?_;have aq:NatV w6 ((fm (.string (idn []))).getD (.slice none 0 0)) (g k):=by
    rw[an];rcases e5 []with⟨h6,h7⟩|⟨y,h6,h7,h8⟩
    .rw[h6,h7];exact NatV.nil _
    rw[h6];exact h8.1.ext (o.trans G)
   refine Jh (Jzh (a2.ext ((D.trans ao).trans G)) aq (be k hk).len (bh k).len) ?_;rintro vr w7 ⟨bd,ay,ap⟩;refine⟨ap,?_⟩;refine ρd ?_;refine ρ ?_;exact Jl (k+1) vr sO ⟨lk,(o.trans G).trans ap,bd,λad m c e=>nL (o.trans G).size (ay ad m c e)⟩ om
  have lf:f<=k:=by have:=oF h;omega
  obtain⟨mb,m,fm,e1,e2,⟨e3,e4⟩,e5,e6⟩:=hdv k lk lf;have ah:va[k]?=some (.map (some mb)):=by
   rw[<-e1];have hl:=b1.1;simp[List.getD,List.getElem?_eq_getElem (show k<va.length by omega)]
  have b2:=(Rd.own b1).ext C;refine ldR (b6.at (i:=7) rfl) ?_;refine ixR k b2 lk ?_;refine ldR (b2.cell ah) ?_;refine ρ ?_;refine mln KS (e3.ext C) ?_;intro q hq;refine ciR (λh=>?_) (λh=>?_)
  .have h0:q=0:=by have:=Zx h;omega
   have h1:=hq.1 h0 (.string (idn []));rw[e5]at h1;have h2:T k []=0:=by
    rcases Nat.eq_zero_or_pos (T k []) with h'|h'
    .exact h'
    rw[if_pos h']at h1;cases h1
   refine ρ ?_;refine Jj ⟨?_,ab,C⟩;rw[Qlc lk (by rw[an,h2])];exact NatV.nil _
  have h0:¬ q=0:=λe=>by have:=Xu h;omega
  have h1:0<T k []:=by
   refine Classical.byContradiction λh'=>h0 (hq.2 λkl=>?_);cases hfk:fm kl with
   | none=>rfl
   | some x=>
    obtain⟨r,rfl⟩:=e6 kl (by rw[hfk];simp);rw[e5]at hfk;split at hfk
    .rename_i hr;rw[hroot k lk hp lf r hr]at hr;exact absurd hr h'
    cases hfk
  refine ρ ?_;refine Jl (k+1) vp sO ⟨lk,C,?_,ai⟩ om;have h2:=hT1 k lf [];have e:Jg (k+1) g=Jg k g:=by rw[Jg,an,show T k []=1 by omega,Nat.mul_one]
  rw[e];exact a2.ext D
 have bf:k=n:=by have:=oF h;omega
 rw[bf]at a2;refine ρ ?_;exact Jj ⟨a2,ai,J⟩
open Go.RowKit Pl Go.Wk _root_.Go.Proofs.Tryz
variable {d:Bool}{bs:List BkT}{bvs cs:List Value}{M N:Nat->Prop}{A BA DA KA:Option Addr}{bv tv x:Value}{w:World}
theorem DnB.old{N N':Nat->Prop}{d:Bool}{w:World}{x:Value}{bs:List BkT}(h:DnB N d w x bs)(hs:∀ k,N' k->N k∨w.heap.size<=k): DnB N' d w x bs:=by
 obtain⟨ps,A,c,U,O,J,G,o,D,j⟩:=h;refine⟨ps,A,c,U,O,J,G,o,λh0 ad e C=>?_,λp i=>⟨(j p i).1,(j p i).2.old hs⟩⟩;rcases hs _ C with h'|h'
 .exact D h0 ad e h'
 have u:0<(Ql ps).length:=by rw[Jhv λp i=>(j p i).1];omega
 obtain⟨Z,e',hb,_⟩:=o.2 u;grind
theorem DnB.ext{N:Nat->Prop}{d:Bool}{w w':World}{x:Value}{bs:List BkT}(h:DnB N d w x bs)(hx:Ext w w'): DnB N d w' x bs:=h.gr (GrN.ext hx)
theorem DnB.nil(N:Nat->Prop)(d:Bool)(w:World): DnB N d w (.slice none 0 0) []:=⟨[],none,0,rfl,rfl,Nat.le_refl _,by simp,Rd.nil,λh=>absurd h (by simp),λp i=>by cases i⟩
theorem Xxz(w:World): (Instr.buildSlice 51 0 #[]).run prog w=.ok (.slice (some ⟨w.heap.size,0,none⟩) 0 0) (w.alloc (.cells ([]:List Value).toArray 208)):=kr
theorem Qks{n c:Nat}(hr:Rd w 3 A n cs)(h1:∀ u∈cs,u.oneCell'=true)(hb:n*24<=140737488355328):
  Ret prog 136 [.slice A n c] w λv w'=>(∃ A' c',v=.slice A' n c'/\n<=c'/\Rd w' 3 A' n cs/\∀ ad,A'=some ad->w.heap.size<=ad.block)/\Ext w w':=by
 refine enE func136 ntmps136 ?_;refine ρ ?_;refine Jjr ?_;refine ciR (λh=>?_) (λh=>?_)
 .have O:A=none:=by simpa using h
  subst O;have hn:n=0:=by
   rcases Nat.eq_zero_or_pos n with h0|h0
   .exact h0
   obtain⟨ad,U,_⟩:=hr.isome h0 om;cases U
  subst hn;refine ρ ?_;exact Jj ⟨⟨none,0,rfl,Nat.le_refl _,hr,λad e=>by cases e⟩,Ext.refl w⟩
 refine Qk Xxz ?_;intro w1 b j G D;refine ρ ?_;refine apo j EBg (D.own (n:=0) G rfl (Nat.zero_le _)) (hr.ext j) h1 (by unfold maxLen;omega) om ?_;intro v2 w2 i C _ _;obtain⟨A2,Z,rfl,o,J⟩:=Jy i;refine ρ ?_;rw[Nat.zero_add]at i o ⊢;exact Jj ⟨⟨A2,Z,rfl,o,Rd.own i,λad e=>by subst e;exact(J ad.block rfl).1⟩,C⟩
theorem Qxt(n:Nat)(kf:Nat->Nat)(pf:Nat->Int): ∀ u∈Qo n (Qr kf pf),u.oneCell'=true:=λu j=>by
 obtain⟨i,_,h⟩:=List.mem_flatMap.1 j;exact Jxz u h
theorem Xjz(h:DnB N d w x bs)(hN:∀ k,N k->k<w.heap.size):
  Ret prog 80 [x] w λu w'=>DnB N d w' u bs/\Ext w w':=by
 obtain⟨ps,A,c,rfl,rfl,hc,hl,hR,hA,am⟩:=h;refine enE func80 ntmps80 ?_;refine ρ ?_;refine Jo (fun (i:Nat) (vl:Value)=>[(3,vl),(6,.slice A ps.length c),(7,.int .i64 (ps.length:Int)),(8,.int .i64 (i:Int))])
  (λi vl w'=>i<=ps.length/\Ext w w'/\∃ o:List (List Value×BkT),w'.ownsRow w.heap.size 78 3 vl o.length (Ql o)/\o.map (·.2)=(ps.map (·.2)).take i/\∀ q∈o,q.1.length=3/\BkE d (λk=>N k∨vl.ownBlock=some k) w' q.1 q.2) (λi _=>ps.length-i) 0 (.slice none 0 0) sB
  ⟨Nat.zero_le _,Ext.refl _,[],Zy _ _ _ _,rfl,λq hq=>by cases hq⟩ ?_
 rintro i vl w1 ⟨hi,a2,o,ae,a7,a6⟩;obtain⟨LA,lc,rfl,az,J⟩:=Jy ae;have bc:o.length=i:=by have:=congrArg List.length a7;rw[List.length_map,List.length_take,List.length_map]at this;omega
 refine ciR (λh=>?_) (λh=>?_)
 .have li:i<ps.length:=by have:=oT h;omega
  clear h;obtain⟨z,hz⟩:∃ z,z=ps[i]:=⟨_,rfl⟩;have ar:z∈ps:=by rw[hz];exact List.getElem_mem li
  obtain⟨ba,ai⟩:=am z ar;have a4:∀ j u,z.1[j]?=some u->w1.cell? ((adr A (i*3)).add j)=some u:=λj u hu=>by
   have hj:j<3:=by have:=(List.getElem?_eq_some_iff.1 hu).1;omega
   rw[Xe];refine(hR.ext a2).cell ?_;rw[Iu (p:=z) (λp hp=>(am p hp).1) (by rw[hz];exact gE li) hj];exact hu
  obtain⟨kv,zq,ap,ab,aa⟩:=id ai;obtain⟨Z,rfl⟩:=aa.ptr;obtain⟨zc,zk,zt⟩:=z;simp only at ap ab aa a4 ai;subst ap;obtain⟨aq,ag,rfl,b8,b7,b9,_⟩:=id ab;refine Qp 3 i (hR.ext a2) li ?_;refine Js (cs:=[.slice aq zk.length ag,.bool d,.pointer Z]) a4 ?_;refine Jv Jcs ?_;intro w2 bb av b2 b3;refine Qb (cs':=[.slice aq zk.length ag,.bool d,.pointer Z]) b3 ?_ (Jyz rfl);intro w3 ao bd au;have a1:Ext w1 w3:=au w1 av b2;have a5:Ext w3 w3.drew:=(Ext.refl w3).drew;have a8:=a2.trans (a1.trans a5);have a9:=ao.ext a5;have an:¬ (Value.slice LA o.length lc).ownBlock=some bb:=λe=>by have:=(J bb e).2;omega
  refine ρ ?_;refine drN (λk=>(Value.slice LA o.length lc).ownBlock=some k) 10 [(0,0),(0,1),(0,2),(0,4),(0,5),(1,3),(0,6),(1,7),(1,8),(0,9)] kr ?_;refine ρn ?_;refine nld (Jr (a9.at (i:=0) rfl) an) ?_;refine ρn ?_;refine Xr (cs:=[.bool d,.pointer Z]) (λw' hg j u hu=>Jr (a9.sub (i:=1) (j:=j) (by rw[Nat.add_comm];exact hu)) (by rw[Ur];exact an) w' hg) ?_;refine ρn ?_;refine nop ?_;refine cl (Gd (r:=zk) (ab.v.ext a8) (λk=>N k∨(Value.slice LA o.length lc).ownBlock=some k) λk O=>?_) ?_
  .rcases O with U|U
   .exact nM (hN k U) a8.size
   exact nM (J k U).2 (a1.trans a5).size
  rintro kv w4 ⟨ak,aj⟩;obtain⟨D,C,rfl,_⟩:=id ak;refine ρ ?_;refine Ja (GrN.ext aj) ?_;refine ρn ?_;refine Jqf (Qwl _ D _ C d Z rfl) ?_;refine ρn ?_;refine nop ?_;refine bsl (Qwg _ D _ C d Z rfl) ?_;intro w5 b5 ac be b4;refine ρ ?_;refine Ja (GrN.ext ac) ?_;refine ρn ?_;refine nop ?_;have G:Ext w1 w5:=((a1.trans a5).trans aj).trans ac;have a3:=a2.trans G;refine apb (m':=1) (news:=[.slice D zk.length C,.bool d,.pointer Z]) EBk (Jk ae G) (b4.rd (n:=1) rfl) (Jyz rfl) (by unfold maxLen;omega) om a3.size ?_;intro v6 w6 ax af ay;have b6:∀ g,(Value.slice LA o.length lc).ownBlock=some g->g<w5.heap.size:=λg eg=>nM (J g eg).2 G.size;refine ρ ?_;refine Ja (GrN.by af λg eg=>eg) ?_;refine ρn ?_;refine ρ ?_;have key:∀ p:List Value×BkT,BkE d (λk=>N k∨(Value.slice LA o.length lc).ownBlock=some k) w5 p.1 p.2->BkE d (λk=>N k∨v6.ownBlock=some k) w6 p.1 p.2:=λp h1=>by
   have h2:BkE d (λk=>(N k∨(Value.slice LA o.length lc).ownBlock=some k)∨v6.ownBlock=some k) w5 p.1 p.2:=h1.old λk O=>by
    rcases O with U|U
    .exact .inl U
    rcases ay k U with h''|h''
    .exact .inl (.inr h'')
    exact .inr h''
   exact(h2.gr (GrN.by af λk O=>.inl (.inr O))).old λk O=>.inl (O.elim (λU=>.inl (.inl U)) .inr)
  have ah:TrV (λk=>N k∨(Value.slice LA o.length lc).ownBlock=some k) w5 zt (.pointer Z):=by
   refine TrV.ext (TrV.old ?_ aa) a3;intro k O;rcases O with U|U
   .exact .inl U
   exact .inr (J k U).1
  refine Jl (i+1) v6 sO ⟨li,Qg a3 af (λg eg=>(J g eg).1),o++[([.slice D zk.length C,.bool d,.pointer Z],(zk,zt))],?_,?_,λq hq=>?_⟩ om
  .rw[List.length_append,List.length_singleton];have e:Ql (o++[([.slice D zk.length C,.bool d,.pointer Z],(zk,zt))])=Ql o++[.slice D zk.length C,.bool d,.pointer Z]:=by simp[Ql]
   rw[e];exact ax
  .rw[List.map_append,a7,List.take_succ_eq_append_getElem (by rw[List.length_map];exact li),List.getElem_map,<-hz];rfl
  rcases List.mem_append.1 hq with h1|h1
  .exact⟨(a6 q h1).1,key q ((a6 q h1).2.ext G)⟩
  rw[List.mem_singleton.1 h1];exact⟨rfl,key ([.slice D zk.length C,.bool d,.pointer Z],(zk,zt)) ⟨_,_,rfl,ak.ext ac,ah⟩⟩
 have b1:i=ps.length:=by have:=oF h;omega
 rw[b1,List.take_of_length_le (by rw[List.length_map];exact nR _)]at a7;refine ρ ?_;refine Jj ⟨⟨o,LA,lc,a7.symm,rfl,az,om,Rd.own ae,λh0 ad e O=>?_,λp hp=>⟨(a6 p hp).1,?_⟩⟩,a2⟩
 .have:=(J ad.block (by rw[e];simp[Value.ownBlock])).1;have:=hN _ O;omega
 exact(a6 p hp).2.old λk O=>.inl (.inl O)
def Zr(bs:List BkT)(k:Row): Option Nat:=bs.findIdx? λb=>decide (b.1=k)
theorem Qsv(bs:List BkT)(b:BkT)(k:Row)(h:b.1 ∉ bs.map (·.1)): Zr (bs++[b]) k=if b.1=k then some bs.length else Zr bs k:=by grind [Zr,List.findIdx?_eq_none_iff,List.mem_map.2]
structure VarQ(N:Nat->Prop)(d:Bool)(w:World)(bv pv:Value)(bs:List BkT): Prop where
 bks:DnB N d w bv bs
 plc:∃ mb m fm,pv=.map (some mb)/\m<=1000000/\(MapS prog 9 w mb m fm/\¬ N mb)/\∀ k:Row,fm (.string (idn k))=(Zr bs k).map λi=>.int .i64 (i:Int)
theorem VarQ.gr{N:Nat->Prop}{d:Bool}{w w':World}{bv pv:Value}{bs:List BkT}(h:VarQ N d w bv pv bs)(hg:GrN N w w'): VarQ N d w' bv pv bs:=by
 refine⟨h.bks.gr hg,?_⟩;obtain⟨j,m,fm,D,C,⟨u,i⟩,o⟩:=h.plc;exact⟨j,m,fm,D,C,⟨u.gr hg i,i⟩,o⟩
theorem VarQ.none{pv:Value}(h:VarQ N d w bv pv bs): VarQ (λ_=>False) d w bv pv bs:=by
 refine⟨h.bks.old λk i=>i.elim,?_⟩;obtain⟨j,m,fm,G,D,⟨C,u⟩,o⟩:=h.plc;grind
structure IxV(w:World)(x:Value)(f:Nat)(ds:List Bool)(kf:Nat->Nat)(pf:Nat->Int)(BB:Nat->List BkT)(tot:Nat): Prop where
 ex:∃ DA dc BA cb KA ck PA cp tv kvs pvs,x=.agg #[.slice DA f dc,.slice BA f cb,.slice KA f ck,.slice PA f cp,tv]/\f<=dc/\f<=cb/\RdB w DA ds/\Rd w 3 BA f (Qo f (Qr kf pf))/\Rd w 1 KA f kvs/\Rd w 1 PA f pvs/\NatV w tv tot /\
  ∀ v,v<f->VarQ (λ_=>False) (ds.getD v false) w (kvs.getD v (.slice none 0 0)) (pvs.getD v (.map none)) (BB v)
 dl:ds.length=f
 f32:f<=32
theorem IxV.ext{w w':World}{x:Value}{f:Nat}{ds:List Bool}{kf:Nat->Nat}{pf:Nat->Int}{BB:Nat->List BkT}{tot:Nat}(h:IxV w x f ds kf pf BB tot)(hx:Ext w w'): IxV w' x f ds kf pf BB tot:=by
 obtain⟨DA,dc,BA,cb,KA,ck,PA,cp,o,j,i,h1,h2,Z,U,O,J,G,D,C⟩:=h.ex;exact⟨⟨DA,dc,BA,cb,KA,ck,PA,cp,o,j,i,h1,h2,Z,Rd.ext U hx,O.ext hx,J.ext hx,G.ext hx,D.ext hx,λv u=>(C v u).gr (GrN.ext hx)⟩,h.dl,h.f32⟩
theorem Jqz: Qa prog 55=some (.agg #[.slice none 0 0,.slice none 0 0,.slice none 0 0,.slice none 0 0,.slice none 0 0]):=kr
theorem Xzw(A B C:Option Addr)(a b c a' b' c':Nat)(w:World): (Instr.build 55 #[(0,.slice A a a'),(1,.slice B b b'),(4,.slice C c c')]).run prog w=.ok (.agg #[.slice A a a',.slice B b b',.slice none 0 0,.slice none 0 0,.slice C c c']) w:=kr
theorem Qjd{B C D E:Option Addr}{a b c d e a' b' c' d' e':Nat}: ∀ u∈[Value.slice A a a',.slice B b b',.slice C c c',.slice D d d',.slice E e e'],u.oneCell'=true:=λu i=>by
 simp only[List.mem_cons,List.not_mem_nil,or_false]at i;rcases i with rfl|rfl|rfl|rfl|rfl<;>rfl
theorem EBks: ElT prog 52 72 1 24 (.slice none 0 0):=⟨underlying52,info_parts kr,rfl,by decide⟩
theorem EPls: ElT prog 53 228 1 8 (.map none):=⟨underlying53,info_parts kr,rfl,by decide⟩
theorem Uh(z:Value)(h:z.cells = #[z])(n:Nat): (madeCells z.cells (n*1)).toList=List.replicate n z:=by rw[Nat.mul_one,h];exact Ux _ _
theorem Xkx{B0 f dc cb ck tot:Nat}{ds:List Bool}{kf:Nat->Nat}{pf:Nat->Int}{BB:Nat->List BkT}(hTB:TB B0 w)(hdl:ds.length=f)(f32:f<=32)(hD:RdB w DA ds)(hBg:Rd w 3 BA f (Qo f (Qr kf pf)))(hK:Rd w 1 KA f bvs)(hel:∀ v,v<f->DnB M (ds.getD v false) w (bvs.getD v (.slice none 0 0)) (BB v))(htv:NatX M w tv tot)(hM:∀ k,M k->k<w.heap.size)(hfit:∀ v,v<f->∀ b∈BB v,FitR b.1)(hlt:∀ v,v<f->Lt [] ((BB v).map (·.1))):
  Ret prog 78 [.slice DA f dc,.slice BA f cb,.slice KA f ck,tv] w λu w'=>Off M w' (λW=>IxV W u f ds kf pf BB tot)/\IxV w' u f ds kf pf BB tot/\Ext w w':=by
 obtain⟨TA,tc,rfl,fx⟩:=id htv.1;have fe:Rd w 1 DA f (ds.map Value.bool):=hdl ▸ hD;refine enE func78 ntmps78 ?_;refine Jv Jqz ?_;intro w1 b8 an dw d8;refine clR (Qkr (fe.ext an) (λu hu=>by obtain⟨b,_,rfl⟩:=List.mem_map.1 hu;rfl) om) ?_;rintro _ w2 ⟨⟨bo,c2,rfl,dt,bj,f5⟩,am⟩;refine clR (Qks ((hBg.ext an).ext am) (Qxt _ _ _) om) ?_;rintro _ w3 ⟨⟨bp,c3,rfl,du,co,f6⟩,ak⟩;refine Zj (Xzw _ _ _ _ _ _ _ _ _ _) ?_;refine Jv Jqz ?_;intro w4 b9 ex aq ff;refine Xn ff ?_;intro w5 ef g1 ew;have a8:Ext w3 w5:=ew w3 ex aq;have c6:Ext w w5:=((an.trans am).trans ak).trans a8;have b2:Ext w5 w5.drew:=(Ext.refl w5).drew;have bl:=ef.ext b2;refine ρ ?_;refine drH (λi=>Nat.beq i 7 || Nat.beq i 9) ?_;refine Zs (fuel':=8) 8 [(0,0),(0,1)] #[true,true,false,false,false,false,false,false,false,false] kr kr rfl ?_;refine ρd ?_
 refine Xy ?_;refine Uk (fuel':=7) 3 kr kr rfl rfl ?_;refine ρp ?_;refine ρd ?_;refine Xy ?_;refine Uk (fuel':=6) 4 kr kr rfl rfl ?_;refine ρp ?_;refine ρd ?_;refine Xy ?_;have g2:w5.drew.heap.size=w5.heap.size:=rfl;refine Jwt 2 (lst 10 8) (fun (y:Option Addr×Option Addr)=>[(24,.slice y.2 f f),(9,.pointer (some ⟨b9,0,none⟩)),(8,.pointer (some ⟨b8,0,none⟩)),(0,.slice DA f dc),(2,.slice KA f ck)])
  (λy W=>GrN (λk=>k=b9) w5.drew W/\Blk W b9 55 [.slice bo f c2,.slice bp f c3,.slice y.1 f f,.slice none 0 0,.slice TA (Jq tot).length tc] /\
   W.ownsRow w5.drew.heap.size 72 1 (.slice y.1 f f) f (List.replicate f (.slice none 0 0))/\W.ownsRow w5.drew.heap.size 228 1 (.slice y.2 f f) f (List.replicate f (.map none))) ?_ ?_
 rotate_left
 .intro rest;refine itwo 2 5 kr rfl rfl rfl ?_ ?_
  .refine mkn EBks f om (by unfold maxLen;omega) ?_;intro w6 D a9 ag _;rw[Uh _ rfl]at ag;refine Jd (Kp (λ_=>a9) ?_);refine Uk (fuel':=4) 6 kr kr rfl rfl ?_;refine ρp ?_;refine ρd ?_;refine Xy ?_;refine itwo 5 7 kr rfl rfl rfl ?_ ?_
   .refine mkn EPls f om (by unfold maxLen;omega) ?_;intro w7 G Z ae _;rw[Uh _ rfl]at ae;refine Jd (Kp (λ_=>Z) ?_);refine Jwp 7 kr rfl rfl ?_;have a4:=(bl.ext a9).ext Z;refine sto (a4.at (i:=2) rfl) (a4.frozen 2) ?_;refine Jd (Kp (λh=>by cases h) ?_);refine hlist (listed':=lst 10 8) kr ?_;have aa:GrN (λk=>k=b9) w7 (w7.setCell ⟨b9,2,none⟩ (.slice D f f)):=GrN.set _ rfl;refine rest (D,G) _ _ ⟨(GrN.ext (a9.trans Z)).trans aa,a4.set 2 _,Jt (Jk ag Z) aa λg U e=>?_,Jt (ae.mono a9.size) aa λg U e=>?_⟩ sB
    .rw[e]at U;exact a4.ne_own (Jk ag Z) rfl U.symm
    rw[e]at U;exact a4.ne_own ae rfl U.symm
   have ac:=bl.ext a9;refine sto (ac.at (i:=2) rfl) (ac.frozen 2) ?_;refine Jd (Kp (λh=>by cases h) ?_);refine Jwp 5 kr rfl rfl ?_;have aa:GrN (λk=>k=b9) w6 (w6.setCell ⟨b9,2,none⟩ (.slice D f f)):=GrN.set _ rfl;refine mkn EPls f om (by unfold maxLen;omega) ?_;intro w7 G Z ae _;rw[Uh _ rfl]at ae;refine Jd (Kp (λ_=>Z) ?_);refine hlist (listed':=lst 10 8) kr ?_;refine rest (D,G) _ _ ⟨((GrN.ext a9).trans aa).trans (GrN.ext Z),(ac.set 2 _).ext Z,Jk (Jt ag aa λg U e=>?_) Z,ae.mono (nL a9.size aa.size)⟩ sB;rw[e]at U;exact ac.ne_own ag rfl U.symm
  refine mkn EPls f om (by unfold maxLen;omega) ?_;intro w6 G a9 ar _;rw[Uh _ rfl]at ar;refine Jd (Kp (λ_=>a9) ?_);refine Jwp 2 kr rfl rfl ?_;refine mkn EBks f om (by unfold maxLen;omega) ?_;intro w7 D Z av _;rw[Uh _ rfl]at av;refine Jd (Kp (λ_=>Z) ?_);refine Uk (fuel':=3) 6 kr kr rfl rfl ?_;refine ρp ?_;refine ρd ?_;refine Xy ?_;refine Jwp 7 kr rfl rfl ?_;have a4:=(bl.ext a9).ext Z;refine sto (a4.at (i:=2) rfl) (a4.frozen 2) ?_;refine Jd (Kp (λh=>by cases h) ?_);refine hlist (listed':=lst 10 8) kr ?_;have aa:GrN (λk=>k=b9) w7 (w7.setCell ⟨b9,2,none⟩ (.slice D f f)):=GrN.set _ rfl;refine rest (D,G) _ _ ⟨(GrN.ext (a9.trans Z)).trans aa,a4.set 2 _,Jt (av.mono a9.size) aa λg U e=>?_,Jt (Jk ar Z) aa λg U e=>?_⟩ sB
  .rw[e]at U;exact a4.ne_own av rfl U.symm
  rw[e]at U;exact a4.ne_own (Jk ar Z) rfl U.symm
 rintro⟨D,G⟩ w6 ⟨ah,ac,ag,ar⟩;simp only at ac ag ar;refine Uk (fuel':=1) 8 kr kr rfl rfl ?_;refine ρp ?_;refine ρd ?_;refine Xy ?_;refine Jwp 9 kr rfl rfl ?_;refine sto (ac.at (i:=3) rfl) (ac.frozen 3) ?_;refine Jd (Kp (λh=>by cases h) ?_);refine Uw kr ?_;obtain⟨w7,bs⟩:∃ w7,w7=w6.setCell ⟨b9,3,none⟩ (.slice G f f):=⟨_,rfl⟩;have ab:GrN (λk=>k=b9) w6 w7:=by rw[bs];exact GrN.set _ rfl
 have a4:Blk w7 b9 55 [.slice bo f c2,.slice bp f c3,.slice D f f,.slice G f f,.slice TA (Jq tot).length tc]:=by rw[bs];exact ac.set 3 _
 have av:=Jt ag ab λg U e=>by rw[e]at U;exact ac.ne_own ag rfl U.symm
 have ae:=Jt ar ab λg U e=>by rw[e]at U;exact ac.ne_own ar rfl U.symm
 rw[show w6.setCell ((⟨b9,0,none⟩:Addr).add 3) (.slice (D,G).2 f f)=w7 from bs.symm];clear bs;obtain⟨N,bu⟩:∃ N:Nat->Prop,N=λk=>(Value.slice D f f).ownBlock=some k∨(Value.slice G f f).ownBlock=some k:=⟨_,rfl⟩;obtain⟨NB,bg⟩:∃ NB:Nat->Prop,NB=λk=>N k∨k=b8∨M k:=⟨_,rfl⟩;have af:∀ {W W':World},GrN N W W'->GrN NB W W':=λhg=>hg.mono λk _ o=>by rw[bg];exact .inl o
 have lK:∀ g,(Value.slice D f f).ownBlock=some g->w5.heap.size<=g/\g<w7.heap.size:=(Jy av).choose_spec.choose_spec.2.2;have lP:∀ g,(Value.slice G f f).ownBlock=some g->w5.heap.size<=g/\g<w7.heap.size:=(Jy ae).choose_spec.choose_spec.2.2;have au:∀ k,N k->w5.heap.size<=k/\k<w7.heap.size:=λk o=>by
  rw[bu]at o;exact o.elim (lK k) (lP k)
 have bv:¬ N b9:=λo=>by
  rw[bu]at o;rcases o with h'|h'
  .exact a4.ne_own av rfl h'.symm
  exact a4.ne_own ae rfl h'.symm
 have de:Ext w w7:=by
  have h1:Ext w3 w6:=(ah.old (a8.trans b2) λk o=>by rw[o];exact aq);have h2:Ext w3 w7:=ab.old h1 λk o=>by rw[o];exact aq
  exact((an.trans am).trans ak).trans h2
 have ft:b8<w3.heap.size:=nM d8.lt (am.trans ak).size;have ej:Blk w7 b8 55 _:=Jb (Jb ((((d8.ext am).ext ak).ext (a8.trans b2))) ah λe=>om) ab λe=>by omega
 have fc:Rd w7 1 bo f (ds.map Value.bool):=by
  have h1:Ext w3 w6:=(ah.old (a8.trans b2) λk o=>by rw[o];exact aq);have h2:Ext w3 w7:=ab.old h1 λk o=>by rw[o];exact aq
  exact Rd.ext (Rd.ext bj ak) h2
 have ed:Rd w7 3 bp f (Qo f (Qr kf pf)):=by
  have h1:Ext w3 w6:=(ah.old (a8.trans b2) λk o=>by rw[o];exact aq);have h2:Ext w3 w7:=ab.old h1 λk o=>by rw[o];exact aq
  exact Rd.ext co h2
 have fj:w5.heap.size<=w7.heap.size:=nL ah.size ab.size;have ey:w3.heap.size<=w5.heap.size:=a8.size;refine ρ ?_;refine Zq (fun (v:Nat) (C J:List Value)=>[(8,.pointer (some ⟨b8,0,none⟩)),(9,.pointer (some ⟨b9,0,none⟩)),(2,.slice KA f ck),(28,.int .i64 (f:Int)),(29,.int .i64 (v:Int))])
  (λv C J w'=>v<=f/\GrN N w7 w'/\w'.ownsRow w5.drew.heap.size 72 1 (.slice D f f) f C/\w'.ownsRow w5.drew.heap.size 228 1 (.slice G f f) f J /\
   ∀ u,u<v->VarQ NB (ds.getD u false) w' (C.getD u (.slice none 0 0)) (J.getD u (.map none)) (BB u)) (λv _ _=>f-v) 0 _ _ sB
  ⟨Nat.zero_le _,GrN.refl _ _,av,ae,λu hu=>om⟩ ?_
 rintro v C J w8 ⟨hv,a2,d3,cx,e0⟩;have ay:=Jb a4 a2 bv;have a1:Ext w w8:=a2.old de λk o=>by have:=(au k o).1;have:=c6.size;omega
 refine ciR (λh=>?_) (λh=>?_)
 .have lv:v<f:=by have:=oT h;omega
  clear h;obtain⟨d,hd⟩:∃ d,d=ds.getD v false:=⟨_,rfl⟩;have ca:=hel v lv;rw[<-hd]at ca;have fq:bvs.length=f:=by have:=hK.len;omega
  have g0:C.length=f:=by have:=d3.1;omega
  have fy:J.length=f:=by have:=cx.1;omega
  have cy:∀ k,N k->w.heap.size<=k:=λk o=>nL c6.size (au k o).1;have a7:Ext w8 w8.drew:=(Ext.refl w8).drew;have bm:=ay.ext a7;have cm:=Jk d3 a7;have cd:=Jk cx a7;have fa:Rd w8.drew 1 KA f bvs:=hK.ext (a1.trans a7);have e6:∀ g,(Value.slice D f f).ownBlock=some g->N g:=λg U=>by rw[bu];exact .inl U
  have cz:∀ g,(Value.slice G f f).ownBlock=some g->N g:=λg U=>by rw[bu];exact .inr U
  have cc:∀(W:World) (N':Nat->Prop),Ext w W->(∀ k,N' k->(M k∨w.heap.size<=k)/\k<W.heap.size)->Ret prog 80 [bvs.getD v (.slice none 0 0)] W λu w'=>DnB N' d w' u (BB v)/\Ext W w':=λW N' eu e7=>
   Xjz ((((ca.old (N':=λk=>M k∨w.heap.size<=k) λk o=>o)).ext eu).old λk o=>.inl (e7 k o).1) λk o=>(e7 k o).2
  have b4:∀(W:World) (C:List Value) (u:Value),W.ownsRow w5.drew.heap.size 72 1 (.slice D f f) f C->W.ownsRow w5.drew.heap.size 228 1 (.slice G f f) f J ->
    W.cell? (adr D v)=C[v]?/\W.frozen? (adr D v)=false/\(W.setCell (adr D v) u).ownsRow w5.drew.heap.size 72 1 (.slice D f f) f (C.set v u)/\(W.setCell (adr D v) u).ownsRow w5.drew.heap.size 228 1 (.slice G f f) f J/\GrN N W (W.setCell (adr D v) u):=λW C u ea f8=>by
   obtain⟨s1,s2,s3,s4,s5⟩:=Zn ea (q:=v) om u;exact⟨s1,s2,s3,Zg f8 ea s5 rfl,GrN.by s5 e6⟩
  refine ρ ?_;refine drM N ?_;refine Gw (fuel':=6) [(0,0),(0,1),(0,2),(0,3),(0,4),(0,5),(0,6),(0,7),(0,8),(0,9)] (lst 16 10) kr kr rfl ?_;refine ρn ?_;refine nld (Jr (bm.at (i:=2) rfl) bv) ?_;refine ρn ?_;refine nld (Jr (bm.at (i:=3) rfl) bv) ?_;refine ρn ?_;refine nix v fa lv ?_;refine ρn ?_;refine nld (v:=bvs.getD v (.slice none 0 0)) (λw' hg=>Gf (hg.old (a1.trans a7) cy) (hK.cell (show bvs[v]?=some (bvs.getD v (.slice none 0 0)) by simp[List.getD,List.getElem?_eq_getElem (show v<bvs.length by omega)]))) ?_;refine ρn ?_;refine Gv ?_;refine mcut 2 (lst 16 14) (fun (y:Value×Nat)=>[(43,.map (some y.2)),(36,.slice G f f),(37,.int .i64 (v:Int)),(10,.int .i64 (v:Int)),(8,.pointer (some ⟨b8,0,none⟩)),(9,.pointer (some ⟨b9,0,none⟩)),(2,.slice KA f ck),(28,.int .i64 (f:Int)),(29,.int .i64 (v:Int))])
   (λy W=>GrN N w8.drew W/\W.ownsRow w5.drew.heap.size 72 1 (.slice D f f) f (C.set v y.1)/\W.ownsRow w5.drew.heap.size 228 1 (.slice G f f) f J/\DnB (λk=>NB k∨k=y.2) d W y.1 (BB v)/\MapS prog 9 W y.2 0 (λ_=>none)/\w8.heap.size<=y.2) ?_ ?_
  rotate_left
  .intro rest;have ax:∀ k,NB k->(M k∨w.heap.size<=k)/\k<w8.heap.size:=λk o=>by
    rw[bg]at o;rcases o with o|o|o
    .exact⟨.inr (cy k o),Nat.lt_of_lt_of_le (au k o).2 a2.size⟩
    .have:=a2.size;rw[o];exact⟨.inr dw,om⟩
    exact⟨.inl o,Nat.lt_of_lt_of_le (hM k o) a1.size⟩
   have bf:∀ k,N k->k<w8.heap.size:=λk o=>nM (au k o).2 a2.size;refine Jzj 10 11 kr rfl rfl rfl ?_ ?_
   .refine cl (cc _ NB (a1.trans a7) ax) ?_;rintro u W1 ⟨c0,a3⟩;have d4:=Jk cm a3;have e4:=Jk cd a3;refine Jd (Xs (GrN.ext a3) ?_);refine Gw (fuel':=4) [(0,12)] #[true,true,true,true,true,true,true,true,true,true,true,false,true,false,false,false] kr kr rfl ?_;refine ρn ?_;refine nix v (Rd.own d4) lv ?_;refine ρn ?_;refine Gv ?_;refine Jzj 11 13 kr rfl rfl rfl ?_ ?_
    .refine mkm 9 ?_;intro W2 mb O ao d2;refine Jd (Xs (GrN.ext O) ?_);refine Yb 13 kr rfl rfl ?_;obtain⟨s1,s2,s3,s4,s5⟩:=b4 W2 C u (Jk d4 O) (Jk e4 O);refine sto (s1.trans (show C[v]?=some (C.getD v (.slice none 0 0)) by simp[List.getD,List.getElem?_eq_getElem (show v<C.length by omega)])) s2 ?_ rfl rfl rfl rfl rfl (by obtain⟨_,_,_,_,e,_⟩:=c0;rw[e];rfl);refine Jd (Xs s5 ?_);refine Km (listed':=lst 16 14) kr ?_;refine rest (u,mb) _ _ ⟨(GrN.ext (a3.trans O)).trans s5,s3,s4,?_,d2.gr s5 λo=>?_,Nat.le_trans a3.size ao⟩ sB
     .exact(((c0.old (N':=λk=>NB k∨k=mb) λk o=>o.imp id λe=>by rw[e];exact ao).ext O).gr ((af s5).mono λk _ o=>.inl o))
     have h1:=bf _ o;have h2:w8.heap.size<=W1.heap.size:=a3.size;omega
    obtain⟨s1,s2,s3,s4,s5⟩:=b4 W1 C u d4 e4;refine sto (s1.trans (show C[v]?=some (C.getD v (.slice none 0 0)) by simp[List.getD,List.getElem?_eq_getElem (show v<C.length by omega)])) s2 ?_ rfl rfl rfl rfl rfl (by obtain⟨_,_,_,_,e,_⟩:=c0;rw[e];rfl);refine Jd (Xs s5 ?_);refine Yb 11 kr rfl rfl ?_;refine mkm 9 ?_;intro W2 mb O ao d2;refine Jd (Xs (GrN.ext O) ?_);refine Km (listed':=lst 16 14) kr ?_;refine rest (u,mb) _ _ ⟨((GrN.ext a3).trans s5).trans (GrN.ext O),Jk s3 O,Jk s4 O,?_,d2,Nat.le_trans a3.size (nL s5.size ao)⟩ sB;exact((c0.gr (af s5)).old (N':=λk=>NB k∨k=mb) λk o=>o.imp id λe=>by rw[e];exact ao).ext O
   refine mkm 9 ?_;intro W1 mb a3 ao e9;refine Jd (Xs (GrN.ext a3) ?_);refine Yb 10 kr rfl rfl ?_;have fl:=e9.lt;have di:w8.heap.size<=mb:=ao;have g3:w8.heap.size<=W1.heap.size:=a3.size;refine cl (cc _ (λk=>NB k∨k=mb) ((a1.trans a7).trans a3) λk o=>?_) ?_
   .rcases o with o|o
    .have:=ax k o;exact⟨this.1,om⟩
    have:=a1.size;exact⟨.inr om,om⟩
   rintro u W2 ⟨bj,O⟩;have cn:=Jk (Jk cm a3) O;have f9:=Jk (Jk cd a3) O;refine Jd (Xs (GrN.ext O) ?_);refine Gw (fuel':=3) [(0,12)] (lst 16 13) kr kr rfl ?_;refine ρn ?_;refine nix v (Rd.own cn) lv ?_;refine ρn ?_;refine Gv ?_;refine Yb 13 kr rfl rfl ?_;obtain⟨s1,s2,s3,s4,s5⟩:=b4 W2 C u cn f9;refine sto (s1.trans (show C[v]?=some (C.getD v (.slice none 0 0)) by simp[List.getD,List.getElem?_eq_getElem (show v<C.length by omega)])) s2 ?_ rfl rfl rfl rfl rfl (by obtain⟨_,_,_,_,e,_⟩:=bj;rw[e];rfl);refine Jd (Xs s5 ?_);refine Km (listed':=lst 16 14) kr ?_;refine rest (u,mb) _ _ ⟨(GrN.ext (a3.trans O)).trans s5,s3,s4,bj.gr ((af s5).mono λk _ o=>.inl o),(e9.ext O).gr s5 λo=>?_,di⟩ sB;have:=bf _ o;omega
  rintro⟨u,mb⟩ w9 ⟨ba,bw,be,d6,d1,dh⟩;simp only at bw d6 d1 dh;refine Gw (fuel':=1) [(0,14)] (lst 16 15) kr kr rfl ?_;refine ρn ?_;refine nix v (Rd.own be) lv ?_;refine ρn ?_;refine Gv ?_;refine Yb 15 kr rfl rfl ?_;obtain⟨r1,r2,r3,r4,r5⟩:=Zn be (q:=v) om (.map (some mb));refine sto (r1.trans (show J[v]?=some (J.getD v (.map none)) by simp[List.getD,List.getElem?_eq_getElem (show v<J.length by omega)])) r2 ?_;have b5:=GrN.by r5 cz
  refine Jd (Xs b5 ?_);refine mend kr ?_;obtain⟨az,c7⟩:∃ az,az=w9.setCell (adr G v) (.map (some mb)):=⟨_,rfl⟩;rw[<-c7]at r3 r5 b5 ⊢;clear c7;have ax:∀ k,N k->k<w8.heap.size:=λk o=>nM (au k o).2 a2.size;have ai:¬ N mb:=λo=>by have:=ax _ o;omega
  have d0:¬ NB mb:=λo=>by
   rw[bg]at o;rcases o with o|o|o
   .exact ai o
   .have:=a2.size;omega
   have:=hM _ o;have:=a1.size;omega
  have ap:=(GrN.ext (N:=N) a7).trans (ba.trans b5);have bn:=Jb ay ap bv;have bh:=Zg bw be r5 rfl;have ec:=d6.gr ((af b5).mono λk _ o=>.inl o);have cj:=d1.gr b5 ai;have c4:Ext w az:=ap.old a1 cy;have f2:=cj.lt;clear d6 d1;obtain⟨ps,GA,gc,c1,rfl,f4,dg,d5,eb,bz⟩:=ec;have dl:(C.set v (.slice GA ps.length gc))[v]?=some (.slice GA ps.length gc):=by rw[List.getElem?_set_self om]
  have dv:¬ b9=mb:=λe=>by have:=ay.lt;omega
  have dk:ps.length=(BB v).length:=by rw[c1,List.length_map]
  have f7:=hTB.ext c4;refine ldR (bn.at (i:=2) rfl) ?_;refine ixR v (Rd.own bh) lv ?_;refine ldR ((Rd.own bh).cell dl) ?_;refine ρ ?_;refine Zq (fun (i:Nat) (mc:Nat) (fm:Lit->Option Value)=>[(8,.pointer (some ⟨b8,0,none⟩)),(9,.pointer (some ⟨b9,0,none⟩)),(2,.slice KA f ck),(10,.int .i64 (v:Int)),(28,.int .i64 (f:Int)),(29,.int .i64 (v:Int)),(50,.slice GA ps.length gc),(51,.int .i64 (ps.length:Int)),(52,.int .i64 (i:Int))])
   (λi mc fm w'=>i<=ps.length/\GrN (λk=>k=mb) az w'/\MapS prog 9 w' mb mc fm/\mc<=i/\∀ k:Row,fm (.string (idn k))=(Zr ((BB v).take i) k).map λj=>.int .i64 (j:Int)) (λi _ _=>ps.length-i) 0 0 (λ_=>none) sB
   ⟨Nat.zero_le _,GrN.refl _ _,cj,Nat.le_refl _,λk=>rfl⟩ ?_
  rintro i mc fm aj ⟨hi,a5,ch,fz,cv⟩;refine ciR (λh=>?_) (λh=>?_)
  .have li:i<ps.length:=by have:=oT h;omega
   clear h;obtain⟨z,hz⟩:∃ z,z=ps[i]:=⟨_,rfl⟩;have cp:z∈ps:=by rw[hz];exact List.getElem_mem li
   have et:z.2∈BB v:=by rw[c1];exact List.mem_map_of_mem cp
   have bb:GrN (λk=>NB k∨k=mb) az aj:=a5.mono λk _ o=>.inr o;have bi:=Vn d5 bb λh0 ad e=>eb (by have:=d5.1;omega) ad e;have cw:=(bz z cp).2.gr bb;have bd:∀ j u,z.1[j]?=some u->aj.cell? ((adr GA (i*3)).add j)=some u:=λj u hu=>by
    have hj:j<3:=by have:=(List.getElem?_eq_some_iff.1 hu).1;have:=(bz z cp).1;omega
    rw[Xe];refine bi.cell ?_;rw[Iu (p:=z) (λp hp=>(bz p hp).1) (by rw[hz];exact gE li) hj];exact hu
   obtain⟨kv,zq,fg,er,ep⟩:=id cw;obtain⟨zp,rfl⟩:=ep.ptr;have bc:=hfit v lv z.2 et;obtain⟨en,da,rfl,fo,fn,dm,_⟩:=id er;rw[fg]at bd;have cq:Ext w aj:=a5.old c4 λk o=>by rw[o];have:=a1.size;omega
   have d7:=Jb bn a5 dv;have e3:=Jt r3 a5 λg U e=>ai (by rw[<-e];exact cz g U);refine Qp 3 i bi li ?_;refine Js (cs:=[.slice en z.2.1.length da,.bool d,.pointer zp]) bd ?_;refine Jv Jcs ?_;intro fw g4 dd dx ek;refine Qb (cs':=[.slice en z.2.1.length da,.bool d,.pointer zp]) ek ?_ (Jyz rfl);intro bq d9 fp db;have br:Ext aj bq:=db aj dd dx;have b1:Ext bq bq.drew:=(Ext.refl bq).drew;have a6:=br.trans b1;have ce:=Rd.own (Jk e3 a6);refine ρ ?_;refine drN (λ_=>False) 10 [(0,0),(0,1),(0,2),(0,3),(0,4),(0,5),(0,6),(0,8),(1,7),(2,9)] kr ?_;refine ρn ?_;refine nld (Jr ((d7.ext a6).at (i:=3) rfl) (λe=>e)) ?_;refine ρn ?_;refine nix v ce lv ?_;refine ρn ?_;refine nld (Jr (ce.cell (show(J.set v (.map (some mb)))[v]?=some (.map (some mb)) by rw[List.getElem?_set_self om])) (λe=>e)) ?_;refine ρn ?_;refine nld (Jr ((d9.ext b1).at (i:=0) rfl) (λe=>e)) ?_
   refine ρn ?_;refine nop ?_;refine cl (Jzn (r:=z.2.1) (hTB.ext (cq.trans a6)) (dm.ext a6) (λu hu=>(bc.2 u hu).1) (by have:=bc.len;omega) (by have:=bc.1;omega)) ?_;rintro un fu ⟨rfl,b3⟩;refine ρ ?_;refine Ja (GrN.ext b3) ?_;refine ρn ?_;refine Xh ?_;refine mup KS ((ch.ext a6).ext b3) (by unfold maxLen;omega) (Ga bc) ?_;intro eo e8 dq;have bt:GrN (λk=>k=mb) aj eo:=(GrN.ext (a6.trans b3)).trans (GrN.by dq λk o=>by injection o with o;exact o.symm);refine ρ ?_;refine Xq (i+1) (mc+1) (upL fm (.string (idn z.2.1)) (some (.int .i64 (i:Int)))) sO ⟨li,a5.trans bt,e8,om,λk=>?_⟩ om;have em:(BB v).take (i+1)=(BB v).take i++[z.2]:=by
    rw[c1,List.take_succ_eq_append_getElem (by rw[List.length_map];exact li),List.getElem_map,hz]
   have f0:z.2.1 ∉ ((BB v).take i).map (·.1):=by
    have h1:=hlt v lv;rw[<-List.take_append_drop (i+1) (BB v),em,List.map_append,List.map_append]at h1;intro hm;have h2:=(List.pairwise_append.1 (List.pairwise_append.1 h1).1).2.2 _ hm z.2.1 (by simp);rw[Yt]at h2;omega
   rw[em,Qsv _ _ _ f0];have dj:((BB v).take i).length=i:=by rw[List.length_take];omega
   by_cases e:z.2.1=k
   .rw[if_pos e,<-e,Kz (KS.key (Ga bc)),dj];rfl
   rw[if_neg e,Ub (λe'=>e (Jbs (by injection e'.symm)))];exact cv k
  have f3:i=ps.length:=by have:=oF h;omega
  clear h;have cr:(BB v).take i=BB v:=by rw[f3,dk,List.take_length]
  rw[cr]at cv;have dn:GrN N w8 aj:=by
   refine((ap.mono λk _ o=>(.inl o:N k∨k=mb)).trans (a5.mono λk _ o=>.inr o)).mono λk o h=>?_;rcases h with h|h
   .exact h
   omega
  have df:∀ u,u<v->(C.set v (.slice GA ps.length gc)).getD u (.slice none 0 0)=C.getD u (.slice none 0 0)/\(J.set v (.map (some mb))).getD u (.map none)=J.getD u (.map none):=λu hu=>by
   constructor<;>simp[List.getD,List.getElem?_set_ne (show v≠u by omega)]
  have dz:(C.set v (.slice GA ps.length gc)).getD v (.slice none 0 0)=.slice GA ps.length gc/\(J.set v (.map (some mb))).getD v (.map none)=.map (some mb):=by
   constructor
   .rw[List.getD,dl];rfl
   rw[List.getD,List.getElem?_set_self om];rfl
  have fb:DnB (λk=>NB k∨k=mb) d az (.slice GA ps.length gc) (BB v):=⟨ps,GA,gc,c1,rfl,f4,dg,d5,eb,bz⟩;refine ρ ?_;refine Xq (v+1) (C.set v (.slice GA ps.length gc)) (J.set v (.map (some mb))) sO ⟨lv,a2.trans dn,Jt bh a5 λg U e=>ai (by rw[<-e];exact e6 g U),Jt r3 a5 λg U e=>ai (by rw[<-e];exact cz g U),λu hu=>?_⟩ om;by_cases e:u=v
  .subst e;rw[dz.1,dz.2,<-hd];refine⟨(fb.gr (a5.mono λk _ o=>.inr o)).old λk o=>.inl (.inl o),mb,mc,fm,rfl,om,⟨ch,d0⟩,cv⟩
  obtain⟨e1,e2⟩:=df u om;rw[e1,e2];exact(e0 u om).gr (af dn)
 have ez:v=f:=by have:=oF h;omega
 clear h;subst ez;refine Qq ay ?_;refine ρ ?_;have e5:¬ N b8:=λo=>by have:=(au _ o).1;omega
 have ei:=Jb ej a2 e5;refine stW ei ?_;intro w9 eh ba fi;have b7:GrN (λk=>k=b8) w8 w9:=GrN.by ba λk o=>by injection o with o;exact o.symm
 have c5:Ext w w9:=b7.old a1 λk o=>by rw[o];exact dw
 have fr:b8<w1.heap.size:=d8.lt;have cg:∀ k,NB k->k<w1.heap.size∨w5.heap.size<=k:=λk o=>by
  rw[bg]at o;rcases o with o|o|o
  .exact .inr (au k o).1
  .left;omega
  left;exact nM (hM k o) an.size
 have el:∀ W,GrN M w9 W->IxV W (.agg #[.slice bo v c2,.slice bp v c3,.slice D v v,.slice G v v,.slice TA (Jq tot).length tc]) v ds kf pf BB tot:=λW hW=>by
  have b6:GrN (λk=>k=b8∨M k) w8 W:=(b7.mono λk _ o=>.inl o).trans (hW.mono λk _ o=>.inr o);have c8:GrN NB w8 W:=b6.mono λk _ o=>by rw[bg];exact .inr o
  have c9:GrN NB w7 W:=(af a2).trans c8;have fd:=Vn fc c9 λh0 ad e o=>by
   obtain⟨fh,e',hb,_⟩:=bj.2 h0;rw[e]at e';injection e' with e';subst e'
   have h1:=f5 ad e;have h2:w2.heap.size<=w5.heap.size:=(ak.trans a8).size;rcases cg _ o with h'|h'<;>omega
  have ee:=Vn ed c9 λh0 ad e o=>by
   obtain⟨fh,e',hb,_⟩:=co.2 h0;rw[e]at e';injection e' with e';subst e'
   have h1:=f6 ad e;have h2:=am.size;rcases cg _ o with h'|h'<;>omega
  have fk:w1.heap.size<=w5.heap.size:=(am.trans (ak.trans a8)).size;have bw:=Jt d3 b6 λg U e=>by
   have h1:=(lK g U).1;rcases e with e|e
   .omega
   have:=hM g e;have:=an.size;omega
  have be:=Jt cx b6 λg U e=>by
   have h1:=(lP g U).1;rcases e with e|e
   .omega
   have:=hM g e;have:=an.size;omega
  refine⟨⟨bo,c2,bp,c3,D,v,G,v,_,C,J,rfl,dt,du,?_,ee,Rd.own bw,Rd.own be,((htv.ext c5).gr hW).1,λu hu=>?_⟩,hdl,f32⟩
  .unfold RdB;rw[hdl];exact fd
  exact((e0 u hu).gr c8).none
 refine ρ ?_;exact Gu eh ⟨λW hW=>el W hW,el w9 (GrN.refl _ _),c5⟩
end Go.Proofs.YtgobkbeokaaplaaGreatDoor
namespace Go.Wk
open Go.RowKit
variable {c d e m n t ty:Nat}
theorem nslh{N:Nat->Prop}{P:Program}{al:AL}{w:World}{Q:Exit->Act->World->Prop}{ops:Array Oper}{drest:List (Nat×Oper)}{pos:String}{aft:Array Edge}{tt:TT}[hT:Tab P tt]{x y:Operand}{k:TK}{A:Option Addr}{kd:IntKind}{z:Int}(h:Nat)(kk:WN N P n ops Q drest ((d,.slice A h c)::al) w)(h2:h<=c)(ht:tk tt t=some k:=by rfl)(hk:k.desc=.slice e:=by rfl)(hx:ev al x=some (.slice A m c):=by rfl)(hy:ev al y=some (.int kd z):=by rfl)(hz:z=(h:Int):=by first|rfl|omega)(hd:Nat.blt d n=true:=by rfl):
  WN N P n ops Q ((0,⟨some d,.slice t x none (some y) none,ty,pos,aft,none⟩)::drest) al w:=by
 obtain⟨i,j⟩:=Iy hT.ok ht hk rfl;refine ny_ (λw' _ a o=>?_) hd kk;have:=Jsc (ty:=ty) (pos:=pos) (aft:=aft) (P:=P) (w:=w') (lo:=none) (hi:=some y) (mx:=none) (l:=0) (h:=h) (q:=c) (dst:=some d) o i j hx rfl ⟨kd,z,hy,hz⟩ rfl (.inl rfl) (Nat.zero_le _) h2 (nR _);rw[cut0]at this;simpa using this
end Go.Wk
namespace Go.Proofs.YtgobkbeokaaplaaGreatDoor
open Go.RowKit Pl Go.Wk
attribute [local irreducible] WC WL QX WD WDB WP WN WG
variable {ds:List Bool}{l perm:List Nat}{ts:List TA}{B0 c f m n s u v:Nat}{pf:Nat->Int}{vars:Nat->List Nat}{R rs:Nat->List Row}{w:World}
def Um(e:Nat)(l:List Nat): Nat:=l.foldl (λe v=>e ||| 2^v) e
def Qm(l:List Nat): Nat:=Um 0 l
theorem Qzh: ∀(l:List Nat) (e u:Nat),(Um e l).testBit u=true↔e.testBit u=true∨u∈l
 | [],e,u=>by simp[Um]
 | v::l,e,u=>by
  have:=Qzh l (e ||| 2^v) u;rw[show Um e (v::l)=Um (e ||| 2^v) l from rfl,this,Nat.testBit_or,Nat.testBit_two_pow,Bool.or_eq_true,decide_eq_true_eq,List.mem_cons];grind
theorem edgeOf_bit: (Qm l).testBit u=true↔u∈l:=by rw[Qm,Qzh];simp
theorem Jzs(h:∀ v∈l,v<n): Qm l<2^n:=by
 refine Nat.lt_pow_two_of_testBit _ λi hi=>?_;cases hb:(Qm l).testBit i with
 | false=>rfl
 | true=>have:=h i (edgeOf_bit.1 hb);omega
theorem Qzg(e:Nat)(l:List Nat)(v:Nat): Um e (l++[v])=Um e l ||| 2^v:=by simp[Um]
def Vk(m:Nat)(vars:Nat->List Nat): List Nat:=(List.range m).map λi=>Qm (vars i)
structure BldI(n f:Nat)(ds:List Bool)(perm:List Nat)(ts:List TA)(vars:Nat->List Nat)(rs:Nat->List Row): Prop where
 run:RunOk n ts vars rs
 pm:PermOk n f perm
 dl:ds.length=f
 ok:∀ i,i<ts.length->∀ r∈rs i,∀ u∈r,Xf u=true/\Zl u
 cap:∀ kf pf,Jvr n (Vk ts.length vars) (Xd perm f) kf pf->∀ v,v<n->(∀ l:List Row,Lt [] l->(∀ x∈l,∃ z:Row,z.length=n/\x=pmR (bk (kf v ||| 2^v) 32) z/\Ij ts.length vars rs (kf v ||| 2^v) z)->l.length<=65536) /\
  ∀ i,i<ts.length->(rs i).length<=12∨Srt [] ((rs i).map (pmR (Xj (vars i) (kf v ||| 2^v))))
def BldV(w:World)(v:Value)(n f:Nat)(ds:List Bool)(perm:List Nat)(ts:List TA): Prop:=∃ DA dc PA pc AA ac,v=.agg #[.int .i64 (n:Int),.int .i64 (f:Int),.slice DA f dc,.slice PA perm.length pc,.slice AA ts.length ac]/\f<=dc/\RdB w DA ds/\Rd w 1 PA perm.length (Je (nz perm))/\perm.length<=pc /\
 Rd w 3 AA ts.length (atC ts)/\ts.length<=ac/\∀ p∈ts,AtV w p.1 p.2
theorem BldV.ext{w w':World}{v:Value}{n f:Nat}{ds:List Bool}{perm:List Nat}{ts:List TA}(h:BldV w v n f ds perm ts)(hx:Ext w w'): BldV w' v n f ds perm ts:=by
 obtain⟨DA,U,PA,pc,AA,Z,O,J,G,D,C,u,o,j⟩:=h;exact⟨DA,U,PA,pc,AA,Z,O,J,Rd.ext G hx,D.ext hx,C,u.ext hx,o,λp i=>(j p i).ext hx⟩
section
variable {n f:Nat} {ds:List Bool} {perm:List Nat} {ts:List TA} {vars:Nat->List Nat} {rs:Nat->List Row}
theorem BldI.inp(h:BldI n f ds perm ts vars rs){v:Value}(hv:BldV w v n f ds perm ts): InV w v ⟨n,f,ds,nz perm,ts.map (·.2)⟩/\Kj ⟨n,f,ds,nz perm,ts.map (·.2)⟩:=by
 obtain⟨DA,dc,PA,pc,AA,ac,rfl,h2,h3,Z,U,O,J,G⟩:=hv;have hn:=h.run.n32;have hm:=h.run.m32;have C:=h.pm.len;have D:=h.pm.fn;have i:=h.dl;subst i;constructor
 .exact⟨_,rfl,_,_,_,rfl,⟨DA,dc,rfl,h2,by simp only;omega,h3⟩,⟨PA,pc,by rw[Qf],by rw[Qf];exact U,by rw[Qf];omega,by rw[Qf];exact Z⟩,⟨ts,AA,ac,rfl,rfl,J,om,O,G⟩⟩
 refine⟨by simp only;omega,by simp only;omega,by simp only;omega,by simp only;omega,rfl,by grind [Qf],λv hv=>?_,?_,Jfg h.run⟩
 .obtain⟨u,o,rfl⟩:=List.mem_map.1 hv;have:=h.pm.rng u o;simp only;omega
 exact List.Pairwise.map _ (λa b j e=>j om) h.pm.nd
theorem BldI.es(h:BldI n f ds perm ts vars rs): (Vk ts.length vars).length=ts.length/\(∀ i,i<ts.length->∀ u,((Vk ts.length vars).getD i 0).testBit u=true↔u∈vars i)/\∀ e∈Vk ts.length vars,e<2^n:=by
 refine⟨by simp[Vk],λi hi u=>?_,λe j=>?_⟩
 .grind [Vk,Qm,List.getD,edgeOf_bit]
 obtain⟨i,hi,rfl⟩:=List.mem_map.1 j;exact Jzs (h.run.lt i (List.mem_range.1 hi))
theorem BldI.elr(h:BldI n f ds perm ts vars rs){kf:Nat->Nat}(hb:Jvr n (Vk ts.length vars) (Xd perm f) kf pf)(hR:∀ v,v<n->Jcn n ts.length vars rs (kf v ||| 2^v) (R v)): ElR n f ts.length (Vk ts.length vars) perm vars rs kf pf R :=
 ⟨h.pm,h.run.n32,h.run.lt,h.run.len,h.es.1,h.es.2.1,h.es.2.2,hb,hR⟩
theorem Qbv{v:V}(h:Xf v=true): v.bytes.length<=24:=by
 unfold Xf at h;grind
theorem BldI.fit(h:BldI n f ds perm ts vars rs)(hs:s<2^n){z:Row}(hb:Ij ts.length vars rs s z): FitR (pmR (bk s 32) z)/\∀ u∈pmR (bk s 32) z,Xf u=true:=by
 have key:∀ u∈pmR (bk s 32) z,Xf u=true/\Zl u:=λu o=>by
  obtain⟨c,hc,rfl⟩:=List.mem_map.1 o;have C:=(bk_mem.1 hc).2;have D:=Jkf hs C;obtain⟨i,hi,hm⟩:=h.run.cov c D;obtain⟨j,J,e⟩:=List.getElem_of_mem hm;obtain⟨r,G,h1⟩:=hb i hi;have U:(vars i).getD j 0=c:=by rw[Qv 0 _ J,e]
  have O:=h1 j J (by rw[U];exact C);rw[U]at O;rw[<-O];have Z:=h.run.len i hi r G;exact h.ok i hi r G _ (getD_mem' V0 r om)
 exact⟨⟨by grind [Qn,Ya],λu o=>⟨(key u o).2,Qbv (key u o).1⟩⟩,λu o=>(key u o).1⟩
end
theorem ElR.sb{es:List Nat}{kf:Nat->Nat}(h:ElR n f m es perm vars rs kf pf R)(hv:v<n): kf v ||| 2^v<2^n:=by
 refine Nat.lt_pow_two_of_testBit _ λi hi=>?_;cases hb:(kf v ||| 2^v).testBit i with
 | false=>rfl
 | true=>
  rw[Nat.testBit_or,Nat.testBit_two_pow,Bool.or_eq_true,decide_eq_true_eq]at hb;rcases hb with hb|hb
  .have:=(h.kbit hv hb).1;omega
  omega
theorem Qww{kf:Nat->Nat}(h:BldI n f ds perm ts vars rs)(hb:Jvr n (Vk ts.length vars) (Xd perm f) kf pf)(hv:v<n): kf v ||| 2^v<2^n:=by
 refine Nat.lt_pow_two_of_testBit _ λi hi=>?_;cases hbt:(kf v ||| 2^v).testBit i with
 | false=>rfl
 | true=>
  rw[Nat.testBit_or,Nat.testBit_two_pow,Bool.or_eq_true,decide_eq_true_eq]at hbt;rcases hbt with hbt|hbt
  .rw[(hb v hv).2.1]at hbt;have:=Jbm (nb:=nb0 n (Vk ts.length vars)) (ord:=Xd perm f) (N:=n) (λa b j=>(Jzf h.es.2.2 j).2.1) hbt;omega
  omega
noncomputable def BBo(n f:Nat)(kf:Nat->Nat)(pf:Nat->Int)(R:Nat->List Row)(ds:List Bool)(pl:Nat->Nat)(v:Nat): List BkT:=Vr (ds.getD v false) (λx=>wtL (TV n f kf pf R ds pl) x (chK kf pf v n)) (lastC kf v) (R v)
theorem EVm: ElT Tryz.prog 156 213 1 8 (.map none):=⟨Tryz.underlying156,info_parts kr,rfl,by decide⟩
theorem ETm: ElT Tryz.prog 157 221 1 8 (.map none):=⟨Tryz.underlying157,info_parts kr,rfl,by decide⟩
theorem EU32s: ElT Tryz.prog 44 64 1 4 (.int .u32 0):=⟨Tryz.underlying44,info_parts kr,rfl,by decide⟩
theorem Xxt(z:Int)(w:World): (Instr.buildSlice 44 1 #[(0,.int .u32 z)]).run Tryz.prog w=.ok (.slice (some ⟨w.heap.size,0,none⟩) 1 1) (w.alloc (.cells [.int .u32 z].toArray 64)):=kr
theorem Qym: Qa Tryz.prog 151=some (.agg #[.int .i64 0,.slice none 0 0]):=kr
theorem Xzz(z:Int)(w:World): (Instr.build 151 #[(0,.int .i64 z)]).run Tryz.prog w=.ok (.agg #[.int .i64 z,.slice none 0 0]) w:=kr
theorem Qyq: Qa Tryz.prog 159=some (.agg #[.int .i64 0,.int .i64 0,.slice none 0 0,.slice none 0 0,.slice none 0 0,.slice none 0 0,.slice none 0 0,.slice none 0 0,.slice none 0 0,.slice none 0 0]):=kr
theorem Xkd(n f:Int)(D P A B R:Option Addr)(dn dc pn pc an ac bn bc rn rc:Nat)(w:World): (Instr.build 159 #[(0,.agg #[.int .i64 n,.int .i64 f,.slice D dn dc,.slice P pn pc,.slice A an ac]),(1,.slice B bn bc),(2,.slice R rn rc)]).run Tryz.prog w=.ok (.agg #[.int .i64 n,.int .i64 f,.slice D dn dc,.slice P pn pc,.slice A an ac,.slice B bn bc,.slice R rn rc,.slice none 0 0,.slice none 0 0,.slice none 0 0]) w:=kr
theorem Xwv(a b:List Nat): Uc (a++b)=Uc a++Uc b:=by simp[Uc]
theorem Xkv{A:Option Addr}(hA:Rd w 3 A ts.length (atC ts))(hc:ts.length<=c)(hm:ts.length<=1100000)(he:∀ p∈ts,AtV w p.1 p.2): GV 3 AtG w (.slice A ts.length c) (ts.map (·.2)):=by
 refine⟨ts.map λt=>(t.1.cells,t.2),A,c,by simp,by rw[List.length_map],by grind,by grind,?_,λp i=>?_⟩
 .grind [List.length_map,Ql,atC,List.flatMap_map]
 obtain⟨t,ht,rfl⟩:=List.mem_map.1 i;exact⟨rfl,t.1,rfl,he t ht⟩
theorem Qtq{sz:Nat}{g : Nat → List Value}(h : ∀ i, i < n → (g i).length = sz)(hf : f ≤ n): (Qo n g).take (f * sz) = Qo f g := by
  induction n with
  | zero => have : f = 0 := by omega
            subst this; simp [Qo]
  | succ n ih =>
    have hl := Jwz (n := n) (fun i hi => h i om)
    by_cases e : f = n + 1
    . subst e
      rw [List.take_of_length_le]
      rw [Jwz h]; exact nR _
    repeat grind [Jqq,Nat.mul_le_mul_right]
theorem Jcp{es:List Nat}{kf:Nat->Nat}(h:ElR n f m es perm vars rs kf pf R)(hv:v<f):
  GInv (ds.getD v false) (λx=>wtL (TV n f kf pf R ds (plO perm f)) x (chK kf pf v n)) (lastC kf v) (R v) (BBo n f kf pf R ds (plO perm f) v):=Jwv (h.rlt hv) (h.rl hv)
theorem Qrp{v:Value}(hTB:TB B0 w)(hI:BldI n f ds perm ts vars rs)(hV:BldV w v n f ds perm ts):
  Ret Tryz.prog 22 [v] w λu w'=>Ext w w'/\∃(x:Value) (st:Int) (kf:Nat->Nat) (pf:Nat->Int) (R:Nat->List Row),u=.tuple #[x,.int .i64 st,.int .i64 0]/\ElR n f ts.length (Vk ts.length vars) perm vars rs kf pf R /\
   Off (λk=>k<w.heap.size) w' λW=>IxV W x f ds kf pf (λu=>if Ve n pf (TV n f kf pf R ds (plO perm f)) (ts.map (·.2))=0 then[] else BBo n f kf pf R ds (plO perm f) u) (Ve n pf (TV n f kf pf R ds (plO perm f)) (ts.map (·.2))):=by
 obtain⟨g4,fr⟩:=hI.inp hV;obtain⟨DA,dc,PA,pc,AA,ac,rfl,ir,hD,hP,il,hA,fu,f7⟩:=id hV;have bq:=hI.run.n32;have i6:=hI.run.m32;have cj:=hI.pm.fn;have ik:=hI.pm.len;have fq:=hI.dl;refine enE Tryz.func22 Tryz.ntmps22 ?_;refine bxR ?_;intro w1 b1 ei iy f5;refine Jv Jqz ?_;intro w2 b2 d6 gz gb;refine Qq (f5.ext d6) ?_;refine clR (Qxg (g4.ext (ei.trans d6)) (by simp only;omega) (by simp only;omega)) ?_;rintro u w3 ⟨d5,e,rfl,he⟩;have gw:e=0:=he.2 fr;subst gw;refine ρ ?_;have cx:=(f5.ext d6).ext d5;refine ld (cx.at (i:=0) rfl) ?_;refine Zj (Xzz _ _) ?_;refine Jv Qym ?_;intro w4 b6 gj ft c3;refine Xn c3 ?_;intro w5 ga iq gi;have dm:Ext w3 w5:=gi w3 gj ft;have dq:Ext w w3:=(ei.trans d6).trans d5;refine ldR ((cx.ext dm).at (i:=4) rfl) ?_;refine ρ ?_;refine Jo (fun (i:Nat) (vl:Value)=>[(1,.pointer (some ⟨b1,0,none⟩)),(2,.pointer (some ⟨b2,0,none⟩)),(3,.int .i64 0),(4,.int .i64 0),(6,.pointer (some ⟨b6,0,none⟩)),(34,.slice AA ts.length ac),(35,.int .i64 (ts.length:Int)),(36,.int .i64 (i:Int))])
  (λi vl w'=>i<=ts.length/\Ext w3 w'/\Blk w' b6 151 [.int .i64 (n:Int),vl]/\w'.ownsRow w3.heap.size 64 1 vl i (Uc ((Vk ts.length vars).take i))) (λi _=>ts.length-i) 0 (.slice none 0 0) sB
  ⟨Nat.zero_le _,dm,ga,by rw[List.take_zero];exact Zy _ _ _ _⟩ ?_
 rintro i vl w6 ⟨hi,ag,bu,c0⟩;obtain⟨EA,ec,rfl,fp,gu⟩:=Jy c0;refine ciR (λh=>?_) (λh=>?_)
 .have li:i<ts.length:=by have:=oT h;omega
  clear h;have ah:=dq.trans ag;have hp:=f7 _ (Jyj rfl li);have et:=hI.run.at_ i li;have du:=hI.run.lt i li;generalize hq:ts.getD i ta0=q at hp et
  obtain⟨⟨t1,t2,t3⟩,a⟩:=q;simp only at et;subst et;obtain⟨⟨QA,qc,d2,ff,fe,em⟩,d1,d8⟩:=id hp;simp only at d2 d1;obtain⟨bc,PG,bd,hs,d0,_⟩:=id d8;simp only at d0;subst d2;subst d1;subst d0;have im:(vars i).length<=1100000:=by have:=fe;simpa [Qf] using this
  rw[Qf]at em ff;have ap:∀ j u,([.slice QA (nz (vars i)).length qc,.int .i64 ((vars i).length:Int),.slice PG bc.length bd]:List Value)[j]?=some u->w6.cell? ((adr AA (i*3)).add j)=some u:=λj u hu=>Gf ah (Jvk hA rfl li (by rw[hq];exact hu));rw[Qf]at ap;refine Qp 3 i (hA.ext ah) li ?_;refine Js (cs:=[.slice QA (vars i).length qc,.int .i64 ((vars i).length:Int),.slice PG bc.length bd]) ap ?_;refine Jv Yg ?_;intro w7 b8 bz gy hl;refine Qb (cs':=[.slice QA (vars i).length qc,.int .i64 ((vars i).length:Int),.slice PG bc.length bd]) hl ?_ (Ig rfl);intro w8 g9 a4 bf;have ax:Ext w6 w8:=bf w6 bz gy;refine ldR (g9.at (i:=0) rfl) ?_;refine ρ ?_;have fg:=em.ext (ah.trans ax);refine Qy (fun (j:Nat)=>[(1,.pointer (some ⟨b1,0,none⟩)),(2,.pointer (some ⟨b2,0,none⟩)),(3,.int .i64 0),(4,.int .i64 0),(6,.pointer (some ⟨b6,0,none⟩)),(34,.slice AA ts.length ac),(35,.int .i64 (ts.length:Int)),(36,.int .i64 (i:Int)),(9,.int .u32 (Um 0 ((vars i).take j):Int)),(41,.slice QA (vars i).length qc),(42,.int .i64 ((vars i).length:Int)),(43,.int .i64 (j:Int))])
   (λj w'=>j<=(vars i).length/\w'=w8) (λj=>(vars i).length-j) 0 sB ⟨Nat.zero_le _,rfl⟩ ?_
  rintro j _ ⟨hj,rfl⟩;refine ciR (λh=>?_) (λh=>?_)
  .have lj:j<(vars i).length:=by have:=oT h;omega
   clear h;have ij:=du _ (getD_mem' 0 (vars i) lj);refine ixR j fg lj ?_;refine ldR (fg.cell (show(Je (nz (vars i)))[j]?=some (.int .i64 ((vars i).getD j 0:Int)) by simp[Je,nz,List.getD,List.getElem?_eq_getElem lj])) ?_;refine ρ ?_;refine sl32 (v:=(vars i).getD j 0) om ?_;refine ρ ?_;have hw:Um 0 ((vars i).take j)<4294967296:=nM (Jzs (l:=(vars i).take j) λv hv=>du v (List.mem_of_mem_take hv)) (Jxs bq);rw[Jqw hw (Kg om),<-Qzg,<-Qt 0 lj];refine ρ ?_;exact Qw (j+1) sO ⟨lj,rfl⟩ om
  have gs:j=(vars i).length:=by have:=oF h;omega
  clear h;rw[gs,List.take_length];have cr:=bu.ext ax;refine ldR (cr.at (i:=1) rfl) ?_;refine Qk (Xxt _) ?_;intro w9 b9 c6 iw hh;have dk:=ag.trans (ax.trans c6);refine ρ ?_;refine apb (m':=1) (news:=[.int .u32 (Um 0 (vars i):Int)]) EU32s (Jk c0 (ax.trans c6)) (hh.rd (n:=1) rfl) (by simp[Value.oneCell']) (by unfold maxLen;omega) om dk.size ?_;intro ih b7 cg dz i5;have aq:Blk b7 b6 151 [.int .i64 (n:Int),.slice EA i ec]:=(cr.ext c6).grown dz ((cr.ext c6).ne_own (Jk c0 (ax.trans c6)) rfl);obtain⟨dj,dg,rfl,_,i8⟩:=Jy cg;refine Xv (aq.at (i:=1) rfl) (aq.frozen 1) ?_;obtain⟨a3,bp⟩:∃ a3,a3=b7.setCell ⟨b6,1,none⟩ (.slice dj (i+1) dg):=⟨_,rfl⟩;rw[show b7.setCell ((⟨b6,0,none⟩:Addr).add 1) (.slice dj (i+1) dg)=a3 from bp.symm];have br:GrN (λk=>k=b6) b7 a3:=by rw[bp];exact GrN.set _ rfl
  have f0:Blk a3 b6 151 [.int .i64 (n:Int),.slice dj (i+1) dg]:=by rw[bp];exact aq.set 1 _
  clear bp;have eh:Ext w3 b7:=Qg dk dz λg U=>(gu g U).1;refine ρ ?_;refine Jl (i+1) (.slice dj (i+1) dg) sO ⟨li,br.old eh λk C=>by rw[C];exact ft,f0,?_⟩ om;have e1:(Vk ts.length vars).take (i+1)=(Vk ts.length vars).take i++[Um 0 (vars i)]:=by
   rw[Qt 0 (by simp[Vk];exact li)];congr 2
   simp[Vk,List.getD,li];rfl
  rw[e1,Xwv];exact Jt cg br λg U e=>by rw[e]at U;exact aq.ne_own cg rfl U.symm
 have fj:i=ts.length:=by have:=oF h;omega
 clear h;have ai:=hI.es.1;rw[fj,List.take_of_length_le (by rw[ai];exact nR _)]at c0;rw[fj]at bu fp;have fo:=hI.es.2.2;obtain⟨es,fl⟩:∃ es,es=Vk ts.length vars:=⟨_,rfl⟩;rw[<-fl]at ai fo c0;have h9:GrV w6 EA ec n es:=⟨by rw[ai];exact Rd.own c0,by rw[ai];exact fp,bq,by rw[ai];omega,fo⟩;rw[<-ai]at bu;have cw:=cx.ext ag;have ah:=dq.trans ag;refine Qq bu ?_;refine ldR (cw.at (i:=1) rfl) ?_;refine ldR (cw.at (i:=3) rfl) ?_;refine clR (Xjh (pc:=pc) h9 hI.pm (hP.ext ah)) ?_;rintro u w7 ⟨bz,BA,kf,pf,rfl,gn,bj⟩;rw[fl]at bj;refine ρ ?_;have ca:=ah.trans bz;have cv:=cw.ext bz;refine ld (cv.at (i:=0) rfl) ?_;refine ldR (cv.at (i:=4) rfl) ?_;refine ρ ?_;have fi:∀ v,v<n->kf v<4294967296:=λv hv=>(bj v hv).1;have g8:=Rd.own gn;refine cl (Xkr (vars:=vars) (rs:=rs) bq (λv hv=>⟨hI.run,Qww hI bj hv,λi hi r hr=>List.all_eq_true.2 λu hu=>(hI.ok i hi r hr u hu).1,(hI.cap kf pf bj v hv).2⟩) (hA.ext ca) fu (λp hp=>(f7 p hp).ext ca) g8 fi (λv hv=>(hI.cap kf pf bj v hv).1)) ?_
 rintro u w8 ⟨bf,va,gh,R,rfl,fh,cq⟩;have a2:=hI.elr bj cq;have e7:=fh.here;have cn:=e7;have fb:=ca.trans bf;obtain⟨RA,rc,ii,rfl,gm,gl,fz,h7⟩:=e7.parts;rw[List.length_map,List.length_range]at gm gl fz cn ⊢;refine ρ ?_;refine Jo (fun (k:Nat) (st:Int)=>[(1,.pointer (some ⟨b1,0,none⟩)),(2,.pointer (some ⟨b2,0,none⟩)),(12,.slice BA n n),(14,.slice RA n rc),(15,.int .i64 st),(86,.slice RA n rc),(87,.int .i64 (n:Int)),(88,.int .i64 (k:Int))])
  (λk st w'=>k<=n/\Ext w8 w') (λk _=>n-k) 0 gh sB ⟨Nat.zero_le _,Ext.refl _⟩ ?_
 rintro k st w9 ⟨C,Z⟩;refine ciR (λh=>?_) (λh=>?_)
 .have lk:k<n:=by have:=oT h;omega
  clear h;obtain⟨ce,iu,⟨⟨t1,t2,t3⟩,rfl,f6⟩,ap⟩:=h7 k (by simpa using lk);simp only[List.getElem_map,List.getElem_range]at f6;obtain⟨⟨QA,qc,d2,ff,fe,em⟩,d1,d9⟩:=id f6;simp only at d2 d1;obtain⟨bc,PG,bd,hs,d0,_⟩:=id d9;simp only at d0;subst d2;subst d1;subst d0;refine Qp 3 k (fz.ext Z) lk ?_;refine Js (cs:=[.slice QA (Yd (kf k ||| 2^k) (R k)).vars.length qc,.int .i64 ((Yd (kf k ||| 2^k) (R k)).ar:Int),.slice PG bc.length bd]) (λj u hu=>Gf Z (ap j u hu)) ?_;refine Jv Yg ?_;intro b7 bb c9 gx hg;refine Qb (cs':=[.slice QA (Yd (kf k ||| 2^k) (R k)).vars.length qc,.int .i64 ((Yd (kf k ||| 2^k) (R k)).ar:Int),.slice PG bc.length bd]) hg ?_ (Ig rfl);intro a3 ez br c8;have ao:Ext w9 a3:=c8 w9 c9 gx;refine Js (cs:=[.int .i64 ((Yd (kf k ||| 2^k) (R k)).ar:Int),.slice PG bc.length bd]) (λj u hu=>ez.sub (i:=1) (j:=j) (by rw[Nat.add_comm];exact hu)) ?_;refine clR (Jwb (f6.ext (Z.trans ao)).rel) ?_
  rintro u an ⟨rfl,G⟩;obtain⟨ee,fd⟩:∃ ee:Int,ee=IntKind.i64.wrap (st+((Yd (kf k ||| 2^k) (R k)).rows.length:Int)):=⟨_,rfl⟩;refine ρ ?_;rw[<-fd];refine ρ ?_;exact Jl (k+1) ee sO ⟨lk,(Z.trans ao).trans G⟩ om
 have io:k=n:=by have:=oF h;omega
 clear h;have a1:=fb.trans Z;have a9:=(cv.ext bf).ext Z;refine Qq a9 ?_;refine Zj (Xkd _ _ _ _ _ _ _ _ _ _ _ _ _ _ _ _ _ _) ?_;refine Jv Qyq ?_;intro b7 o c9 b3 gc;refine Xn gc ?_;intro a3 df br c8;have ao:Ext w9 a3:=c8 w9 c9 b3;have bi:∀ v,v<n->∀ x∈R v,(x.length=(bk (kf v ||| 2^v) 32).length/\FitR x)/\∀ u∈x,Xf u=true:=λv hv x hx=>by
  obtain⟨z,_,rfl,hb⟩:=((cq v hv).2.1 x).1 hx;have:=hI.fit (Qww hI bj hv) hb;exact⟨⟨Qn _ _,this.1⟩,this.2⟩
 have hF:FixW B0 n f kf pf R (.slice RA n rc) BA w9:=⟨hTB.ext a1,g8.ext (bf.trans Z),cn.ext Z λcs a h=>Jmj h Z,bq,cj,fi,λc O e=>by have:=(a2.chf c c O e).2;omega,λv hv x hx=>(bi v hv x hx).1,λv hv=>(cq v hv).2.2⟩;have f9:Ext a3 a3.drew:=(Ext.refl a3).drew;have bl:=ao.trans f9;have ea:=(a9.ext bl);have ey:=df.ext f9;have dt:¬ b1=o:=λe=>by have:=a9.lt;omega
 refine ρ ?_;refine drM (λk=>k=o) ?_;refine Gw (fuel':=6) [(0,0),(0,1),(0,3),(0,4)] #[true,true,false,true,true,false,false,false,false,false] kr kr rfl ?_;refine ρn ?_;refine nld (Jr (ea.at (i:=0) rfl) dt) ?_;refine ρn ?_;refine nld (Jr (ea.at (i:=0) rfl) dt) ?_;refine ρn ?_;refine Gv ?_;refine mcut 2 (lst 10 8) (fun (y:Option Addr×Option Addr)=>[(107,.slice y.2 n n),(1,.pointer (some ⟨b1,0,none⟩)),(2,.pointer (some ⟨b2,0,none⟩)),(12,.slice BA n n),(15,.int .i64 st),(18,.pointer (some ⟨o,0,none⟩))])
  (λy W=>GrN (λk=>k=o) a3.drew W/\Blk W o 159 [.int .i64 (n:Int),.int .i64 (f:Int),.slice DA f dc,.slice PA perm.length pc,.slice AA ts.length ac,.slice BA n n,.slice RA n rc,.slice y.1 n n,.slice none 0 0,.slice none 0 0] /\
   W.ownsRow a3.drew.heap.size 213 1 (.slice y.1 n n) n (List.replicate n (.map none))/\W.ownsRow a3.drew.heap.size 221 1 (.slice y.2 n n) n (List.replicate n (.map none))) ?_ ?_
 rotate_left
 .intro rest;refine Jzj 2 5 kr rfl rfl rfl ?_ ?_
  .refine mkn EVm n om (by unfold maxLen;omega) ?_;intro an VA G a7 _;rw[Uh _ rfl]at a7;refine Jd (Xs (GrN.ext G) ?_);refine Gw (fuel':=4) [(0,6)] #[true,true,true,true,true,false,true,false,false,false] kr kr rfl ?_;refine ρn ?_;refine Gv ?_;refine Jzj 5 7 kr rfl rfl rfl ?_ ?_
   .refine mkn ETm n om (by unfold maxLen;omega) ?_;intro aa TA D a8 _;rw[Uh _ rfl]at a8;refine Jd (Xs (GrN.ext D) ?_);refine Yb 7 kr rfl rfl ?_;have af:=(ey.ext G).ext D;refine sto (af.at (i:=7) rfl) (af.frozen 7) ?_;have a4:GrN (λk=>k=o) aa (aa.setCell ⟨o,7,none⟩ (.slice VA n n)):=GrN.set _ rfl;refine Jd (Xs a4 ?_);refine Km (listed':=lst 10 8) kr ?_;refine rest (VA,TA) _ _ ⟨(GrN.ext (G.trans D)).trans a4,af.set 7 _,Jt (Jk a7 D) a4 λg U e=>?_,Jt (a8.mono G.size) a4 λg U e=>?_⟩ sB
    .rw[e]at U;exact af.ne_own (Jk a7 D) rfl U.symm
    rw[e]at U;exact af.ne_own a8 rfl U.symm
   have c3:=ey.ext G;refine sto (c3.at (i:=7) rfl) (c3.frozen 7) ?_;have a4:GrN (λk=>k=o) an (an.setCell ⟨o,7,none⟩ (.slice VA n n)):=GrN.set _ rfl;refine Jd (Xs a4 ?_);refine Yb 5 kr rfl rfl ?_;refine mkn ETm n om (by unfold maxLen;omega) ?_;intro aa TA D a8 _;rw[Uh _ rfl]at a8;refine Jd (Xs (GrN.ext D) ?_);refine Km (listed':=lst 10 8) kr ?_;refine rest (VA,TA) _ _ ⟨((GrN.ext G).trans a4).trans (GrN.ext D),(c3.set 7 _).ext D,Jk (Jt a7 a4 λg U e=>?_) D,a8.mono (nL G.size a4.size)⟩ sB;rw[e]at U;exact c3.ne_own a7 rfl U.symm
  refine mkn ETm n om (by unfold maxLen;omega) ?_;intro an TA G ae _;rw[Uh _ rfl]at ae;refine Jd (Xs (GrN.ext G) ?_);refine Yb 2 kr rfl rfl ?_;refine mkn EVm n om (by unfold maxLen;omega) ?_;intro aa VA D b5 _;rw[Uh _ rfl]at b5;refine Jd (Xs (GrN.ext D) ?_);refine Gw (fuel':=3) [(0,6)] (lst 10 7) kr kr rfl ?_;refine ρn ?_;refine Gv ?_;refine Yb 7 kr rfl rfl ?_;have af:=(ey.ext G).ext D;refine sto (af.at (i:=7) rfl) (af.frozen 7) ?_;have a4:GrN (λk=>k=o) aa (aa.setCell ⟨o,7,none⟩ (.slice VA n n)):=GrN.set _ rfl;refine Jd (Xs a4 ?_);refine Km (listed':=lst 10 8) kr ?_;refine rest (VA,TA) _ _ ⟨(GrN.ext (G.trans D)).trans a4,af.set 7 _,Jt (b5.mono G.size) a4 λg U e=>?_,Jt (Jk ae D) a4 λg U e=>?_⟩ sB
  .rw[e]at U;exact af.ne_own b5 rfl U.symm
  rw[e]at U;exact af.ne_own (Jk ae D) rfl U.symm
 rintro⟨VA,TA⟩ an ⟨da,am,a7,ae⟩;simp only at am a7 ae;refine Gw (fuel':=1) [(0,8)] (lst 10 9) kr kr rfl ?_;refine ρn ?_;refine Gv ?_;refine Yb 9 kr rfl rfl ?_;refine sto (am.at (i:=8) rfl) (am.frozen 8) ?_;have az:GrN (λk=>k=o) an (an.setCell ⟨o,8,none⟩ (.slice TA n n)):=GrN.set _ rfl;refine Jd (Xs az ?_);refine mend kr ?_;obtain⟨aa,bo⟩:∃ aa,aa=an.setCell ⟨o,8,none⟩ (.slice TA n n):=⟨_,rfl⟩;have f4:Blk aa o 159 [.int .i64 (n:Int),.int .i64 (f:Int),.slice DA f dc,.slice PA perm.length pc,.slice AA ts.length ac,.slice BA n n,.slice RA n rc,.slice VA n n,.slice TA n n,.slice none 0 0]:=by rw[bo];exact am.set 8 _
 rw[<-bo]at az;rw[show an.setCell ((⟨o,0,none⟩:Addr).add 8) (.slice (VA,TA).2 n n)=aa from bo.symm];clear bo;have b5:=Jt a7 az λg U e=>by rw[e]at U;exact am.ne_own a7 rfl U.symm
 have a8:=Jt ae az λg U e=>by rw[e]at U;exact am.ne_own ae rfl U.symm
 have be:Ext w9 aa:=az.old (da.old bl λk C=>by rw[C];exact b3) λk C=>by rw[C];exact b3
 refine ldR ((a9.ext be).at (i:=1) rfl) ?_;refine ρ ?_;refine mkn EBks f om (by unfold maxLen;omega) ?_;intro d3 KA bm e6 _;rw[Uh _ rfl]at e6;refine ρ ?_;have bw:=f4.ext bm;refine sto (bw.at (i:=9) rfl) (bw.frozen 9) ?_;obtain⟨av,bn⟩:∃ av,av=d3.setCell ⟨o,9,none⟩ (.slice KA f f):=⟨_,rfl⟩;have dx:GrN (λk=>k=o) d3 av:=by rw[bn];exact GrN.set _ rfl
 have gd:Blk av o 159 (bCs n f (.slice DA f dc) (.slice PA perm.length pc) (.slice AA ts.length ac) BA n (.slice RA n rc) VA n TA n (.slice KA f f)):=by rw[bn];exact bw.set 9 _
 rw[show d3.setCell ((⟨o,0,none⟩:Addr).add 9) (.slice KA f f)=av from bn.symm];clear bn;have bg:∀ {t:Nat} {v:Value} {xs:List Value} {b m:Nat},d3.ownsRow b t 1 v m xs->Nat.beq t 159=false->av.ownsRow b t 1 v m xs:=λho gq=>Jt ho dx λg U e=>by rw[e]at U;exact bw.ne_own ho gq U.symm
 have c5:Ext w9 av:=dx.old (be.trans bm) λk C=>by rw[C];exact b3
 have fx:=bg ((Jk b5 bm).mono bl.size) rfl;have fy:=bg ((Jk a8 bm).mono bl.size) rfl;have g3:=bg (e6.mono be.size) rfl;have fw:BldW w9 o n (bCs n f (.slice DA f dc) (.slice PA perm.length pc) (.slice AA ts.length ac) BA n (.slice RA n rc) VA n TA n (.slice KA f f)) VA n TA n av (List.replicate n (.map none)) (List.replicate n (.map none)):=⟨c5,gd,fx,fy⟩;obtain⟨T,hT⟩:∃ T,T=TV n f kf pf R ds (plO perm f):=⟨_,rfl⟩;have ew:∀ c,f<=c->∀ k,T c k<=1:=λc O k=>by rw[hT];exact Jmr a2.chf c O k
 have eu:∀ c k,T c k<=4294967296^20:=λc k=>by rw[hT];exact a2.big c k
 have f3:=a9.ext c5;refine ldR (f3.at (i:=3) rfl) ?_;have iz:(Value.slice KA f f)=Value.slice KA f f:=rfl;obtain⟨AR,f8⟩:∃ AR:Nat->Prop,AR=λk=>ARk n f VA n TA n (.slice KA f f) k∨k=b2∨k<w.heap.size:=⟨_,rfl⟩;have cz:∀ k,ARk n f VA n TA n (.slice KA f f) k->AR k:=λk C=>by rw[f8];exact .inl C
 have e2:b2<w9.heap.size:=nM gb.lt (d5.trans (ag.trans (bz.trans (bf.trans Z)))).size;have cy:∀(W:World) (va ta ba:List Value),Ext w9 W->W.ownsRow w9.heap.size 213 1 (.slice VA n n) n va->W.ownsRow w9.heap.size 221 1 (.slice TA n n) n ta->W.ownsRow w9.heap.size 72 1 (.slice KA f f) f ba->∀ k,AR k->k<W.heap.size:=λW va ta ba fa hv ht hb k C=>by
  rw[f8]at C;rcases C with(C|C|C)|C|C
  .exact((Jy hv).choose_spec.choose_spec.2.2 k C).2
  .exact((Jy ht).choose_spec.choose_spec.2.2 k C).2
  .exact((Jy hb).choose_spec.choose_spec.2.2 k C).2
  .rw[C];exact nM e2 fa.size
  exact nM C (a1.trans fa).size
 have lV:∀ {W:World} {xs:List Value},W.ownsRow w9.heap.size 213 1 (.slice VA n n) n xs->∀ g,(Value.slice VA n n).ownBlock=some g->w9.heap.size<=g/\g<W.heap.size:=λho=>(Jy ho).choose_spec.choose_spec.2.2;have ge:∀ k,(Value.slice VA n n).ownBlock=some k->AR k:=λk C=>cz k (.inl C);refine ρ ?_;refine Jo (fun (i:Nat) (va:List Value)=>[(1,.pointer (some ⟨b1,0,none⟩)),(2,.pointer (some ⟨b2,0,none⟩)),(12,.slice BA n n),(15,.int .i64 st),(18,.pointer (some ⟨o,0,none⟩)),(115,.slice PA perm.length pc),(116,.int .i64 (perm.length:Int)),(117,.int .i64 (i:Int))])
  (λi va w'=>i<=perm.length/\BldW w9 o n (bCs n f (.slice DA f dc) (.slice PA perm.length pc) (.slice AA ts.length ac) BA n (.slice RA n rc) VA n TA n (.slice KA f f)) VA n TA n w' va (List.replicate n (.map none)) /\
   w'.ownsRow w9.heap.size 72 1 (.slice KA f f) f (List.replicate f (.slice none 0 0))/\∀ c,c<n->plO perm f c<i->f<=c->DnV AR (T c) w' (va.getD c (.map none))) (λi _=>perm.length-i) 0 _ sB
  ⟨Nat.zero_le _,fw,g3,λc O h=>om⟩ ?_
 rintro i va ed ⟨hi,a6,bs,db⟩;have e5:Rd ed 1 PA perm.length (Je (nz perm)):=hP.ext (a1.trans a6.ext);refine ciR (λh=>?_) (λh=>?_)
 .have li:i<perm.length:=by have:=oT h;omega
  clear h;obtain⟨v,hv⟩:∃ v,v=perm.getD i 0:=⟨_,rfl⟩;have d7:=hI.pm.rng v (by rw[hv];exact getD_mem' 0 perm li);have i3:plO perm f v=i:=by rw[hv];exact hI.pm.plPerm li
  refine ixR i e5 li ?_;refine ldR (e5.cell (show(Je (nz perm))[i]?=some (.int .i64 (v:Int)) by rw[hv];simp[Je,nz,List.getD,List.getElem?_eq_getElem li])) ?_;refine clR (Qhf (AR:=AR) hF a6 d7.2 (λc O hp hf=>?_) (λc O hp hf=>?_) ew eu cz (cy _ _ _ _ a6.ext a6.va a6.ta bs)) ?_
  .have:=(a2.chf c v O hp).2;exact db c O om hf
  .have h1:=(a2.chf c v O hp).2;have h2:=hI.pm.plLow hf d7.1 d7.2;omega
  rintro u c4 ⟨rfl,mv,J,dw,g7⟩;have eo:GrN AR ed c4:=dw.mono λk _ C=>ge k C;have aj:=Jt bs dw λg U e=>by
   have h1:=a6.va;rcases h1.2 with⟨h2,_⟩|⟨g1,c1,cu1,h2,_,h3,_⟩
   .rw[h2]at e;simp[Value.ownBlock]at e
   rcases bs.2 with⟨h4,_⟩|⟨g2,c2,cu2,h4,_,h5,_⟩
   .rw[h4]at U;simp[Value.ownBlock]at U
   rw[h2]at e;rw[h4]at U;simp only[Value.ownBlock,Option.some.injEq]at e U;subst e;subst U;rw[h3]at h5;injection h5 with h5
   injection h5 with _ h6
   exact absurd h6 (by decide)
  refine ρ ?_;refine Jl (i+1) (va.set v mv) sO ⟨li,J,aj,λc O i4 hf=>?_⟩ om;have i1:va.length=n:=by have:=a6.va.1;omega
  by_cases e:c=v
  .subst e;rw[getD_set' (.map none) va c c mv om,if_pos rfl,hT,Jvp a2.chf O hf,<-hT];exact g7
  rw[getD_set' (.map none) va v c mv om,if_neg e];refine(db c O ?_ hf).gr eo;rcases Nat.lt_or_ge (plO perm f c) i with h'|h'
  .exact h'
  exact absurd (hI.pm.inj O d7.2 om) e
 have i7:i=perm.length:=by have:=oF h;omega
 clear h;have ak:∀ c,c<n->f<=c->DnV AR (T c) ed (va.getD c (.map none)):=λc O hf=>db c O (by
  have hm:c∈perm:=by
   rcases List.mem_append.1 (hI.pm.omem.2 O) with h1|h1
   .exact h1
   have:=List.mem_range.1 (List.mem_reverse.1 h1);omega
  obtain⟨j,hj,e⟩:=List.getElem_of_mem hm;have:=hI.pm.plPerm hj;rw[Qv 0 _ hj,e]at this;omega) hf
 have de:=a9.ext a6.ext;refine ldR (de.at (i:=1) rfl) ?_;refine ρ ?_;refine Zq (fun (i:Nat) (ta ba:List Value)=>[(1,.pointer (some ⟨b1,0,none⟩)),(2,.pointer (some ⟨b2,0,none⟩)),(12,.slice BA n n),(15,.int .i64 st),(18,.pointer (some ⟨o,0,none⟩)),(125,.int .i64 (f:Int)),(126,.int .i64 (i:Int))])
  (λi ta ba w'=>i<=f/\BldW w9 o n (bCs n f (.slice DA f dc) (.slice PA perm.length pc) (.slice AA ts.length ac) BA n (.slice RA n rc) VA n TA n (.slice KA f f)) VA n TA n w' va ta /\
   w'.ownsRow w9.heap.size 72 1 (.slice KA f f) f ba/\(∀ c,c<n->f<=c->DnV AR (T c) w' (va.getD c (.map none))) /\
   ∀ c,c<f->f-i<=c->DnT AR (T c) w' (ta.getD c (.map none))/\DnB AR (ds.getD c false) w' (ba.getD c (.slice none 0 0)) (BBo n f kf pf R ds (plO perm f) c)) (λi _ _=>f-i) 0 _ _ sB
  ⟨Nat.zero_le _,a6,bs,ak,λc O h=>om⟩ ?_
 clear db ak;rintro i ta ba c4 ⟨hi,J,aj,ak,bt⟩;have bv:=a9.ext J.ext;refine ciR (λh=>?_) (λh=>?_)
 .have li:i<f:=by have:=oT h;omega
  clear h;obtain⟨v,hv⟩:∃ v,v=f-1-i:=⟨_,rfl⟩;have cb:v<f:=om
  have gk:v<n:=om
  refine ldR (bv.at (i:=1) rfl) ?_;refine ρ ?_;refine Go.Wk.kv 133 (show Value.int .i64 ((f:Int)-1-(i:Int))=.int .i64 (v:Int) by congr 1;omega) ?_;refine cl (Qtj (v:=v) (AR:=AR) hF fq (Rd.ext hD a1) J aj cb (by rw[(a2.lastC cb).2];omega) (λx hx=>?_) (a2.rlt cb) (λc O hp hf=>ak c O hf) (λc O hp hf=>?_) ew eu cz (cy _ _ _ _ J.ext J.va J.ta aj)) ?_
  .have h1:=bi v gk x hx;refine h1.2 _ (getD_mem' V0 x ?_);rw[h1.1.1,(a2.lastC cb).2];omega
  .have h1:=(a2.chf c v O hp).2;have h2:plO perm f c<plO perm f v:=h1;rw[hI.pm.plFree hf,hI.pm.plFree cb]at h2;exact(bt c hf om).1
  rintro u eb ⟨rfl,mv,lv,b4,cm,ch,g5,g6⟩;have eB:Vr (ds.getD v false) (λx=>wtL T x (chK kf pf v n)) ((bk (kf v ||| 2^v) 32).length-1) (R v)=BBo n f kf pf R ds (plO perm f) v:=by rw[hT];rfl
  rw[eB]at g5 g6;have i2:ta.length=n:=by have:=J.ta.1;omega
  have i9:ba.length=f:=by have:=aj.1;omega
  refine ρ ?_;refine Xq (i+1) (ta.set v mv) (ba.set v lv) sO ⟨li,b4,cm,λc O hf=>(ak c O hf).gr ch,λc O iv=>?_⟩ om;by_cases e:c=v
  .subst e;rw[getD_set' (.map none) ta c c mv om,if_pos rfl,getD_set' (.slice none 0 0) ba c c lv om,if_pos rfl];refine⟨?_,g6⟩;rw[hT,Jck a2.chf cj O];exact g5
  rw[getD_set' (.map none) ta v c mv om,if_neg e,getD_set' (.slice none 0 0) ba v c lv om,if_neg e];have:=bt c O om;exact⟨this.1.gr ch,this.2.gr ch⟩
 have ip:i=f:=by have:=oF h;omega
 clear h;have el:∀ c,c<n->pf c = -1->f<=c->∀ k,0<T c k->k=[]:=λc O hp hf k C=>by
  rw[hT,Jvp a2.chf O hf,redT_pos]at C;obtain⟨x,_,_,e⟩:=C;have h1:∀ u,(kf c).testBit u=false:=by
   rcases a2.par O with⟨_,h1⟩|⟨p,h1,_⟩
   .exact h1
   rw[h1]at hp;omega
  have h2:Zp kf c=[]:=by
   unfold Zp Xj;refine List.filter_eq_nil_iff.2 λu _ hu=>?_;rw[h1]at hu;cases hu
  rw[h2]at e;exact e.symm
 have co:∀ c,c<f->DnT AR (T c) c4 (ta.getD c (.map none))/\DnB AR (ds.getD c false) c4 (ba.getD c (.slice none 0 0)) (BBo n f kf pf R ds (plO perm f) c):=λc O=>bt c O om;clear bt;refine clR (Qcn (AR:=AR) hF J (Xkv (hA.ext a1) fu om λp hp=>(f7 p hp).ext a1) (λc O=>?_) (λc O hf=>ak c O hf) (λc O hf=>(co c hf).1) el ew eu) ?_
 .rcases a2.par O with⟨h1,_⟩|⟨p,h1,_⟩
  .exact .inl h1
  exact .inr ⟨p,h1⟩
 rintro u eb ⟨ek,gt,ay⟩;have ep:b2<c4.heap.size:=nM e2 J.ext.size;obtain⟨tot,cd⟩:∃ tot,tot=Ve n pf T (ts.map (·.2)):=⟨_,rfl⟩
 rw[<-cd]at ek;rw[hT]at cd;obtain⟨dh,d4,rfl,cc⟩:=Jgv ek;have fc:NatX (λk=>k=b2∨k<w.heap.size) eb (.slice dh (Jq tot).length d4) tot:=gt.x ek λk C=>by
  rcases C with C|C
  .rw[C];exact ep
  exact nM C (a1.trans J.ext).size
 have b4:=J.ext' ay;have cm:=Jk aj ay;refine ρ ?_;refine Zv (fun (y:Option Addr×List Value)=>[(1,.pointer (some ⟨b1,0,none⟩)),(2,.pointer (some ⟨b2,0,none⟩)),(12,.slice BA n n),(15,.int .i64 st),(18,.pointer (some ⟨o,0,none⟩)),(23,.slice dh (Jq tot).length d4)])
  (λy w'=>Ext w9 w'/\Blk w' o 159 (bCs n f (.slice DA f dc) (.slice PA perm.length pc) (.slice AA ts.length ac) BA n (.slice RA n rc) VA n TA n (.slice y.1 f f))/\Rd w' 1 y.1 f y.2/\NatX (λk=>k=b2∨k<w.heap.size) w' (.slice dh (Jq tot).length d4) tot /\
   ∀ c,c<f->DnB AR (ds.getD c false) w' (y.2.getD c (.slice none 0 0)) (if tot=0 then[] else BBo n f kf pf R ds (plO perm f) c)) ?_ ?_
 .refine ci (λh=>?_) (λh=>?_)
  .have h0:tot=0:=by
    have:=Zx h;rcases Nat.eq_zero_or_pos tot with h'|h'
    .exact h'
    have:=cc.2 h';omega
   clear h;have dd:=bv.ext ay;refine ldR (dd.at (i:=1) rfl) ?_;refine ρ ?_;refine mkn EBks f om (by unfold maxLen;omega) ?_;intro au di dn ck _;rw[Uh _ rfl]at ck;refine ρ ?_;have a5:=b4.blk.ext dn;refine sto (a5.at (i:=9) rfl) (a5.frozen 9) ?_;have dv:GrN (λk=>k=o) au (au.setCell ⟨o,9,none⟩ (.slice di f f)):=GrN.set _ rfl;have en:Ext eb (au.setCell ⟨o,9,none⟩ (.slice di f f))∨True:=.inr trivial;clear en;refine ρ ?_;refine Jf (di,List.replicate f (.slice none 0 0)) sB ⟨dv.old ((J.ext.trans ay).trans dn) λk C=>by rw[C];exact b3,a5.set 9 _,Rd.own (Jt ck dv λg U e=>by rw[e]at U;exact a5.ne_own ck rfl U.symm),?_,λc O=>?_⟩
   .have e0:(Jq tot).length=0:=by rw[h0,limbs_0];rfl
    rw[e0,h0];exact⟨⟨dh,d4,by rw[limbs_0];rfl,by rw[limbs_0];simp,by rw[limbs_0];simp,by rw[limbs_0];exact Rd.nil⟩,λh=>absurd rfl h⟩
   rw[if_pos h0];have:(List.replicate f (Value.slice none 0 0)).getD c (.slice none 0 0)=.slice none 0 0:=by simp[List.getD,O]
   rw[this];exact DnB.nil _ _ _
  have h0:¬ tot=0:=λe=>by
   have h1:=Xu h;have h2:¬ 0<(Jq tot).length:=λh'=>by have:=cc.1 h';omega
   omega
  clear h;refine ρ ?_;refine Jf (KA,ba) sB ⟨b4.ext,b4.blk,Rd.own cm,fc,λc O=>?_⟩;rw[if_neg h0];exact(co c O).2.ext ay
 rintro⟨di,j0⟩ au ⟨ef,a5,e4,ej,cp⟩;simp only at a5 e4 cp;have ab:Ext au au.drew:=(Ext.refl au).drew;have ad:=ef.trans ab;have e9:=a9.ext ad;have hd:=a5.ext ab;have e3:¬ b1=b2:=λe=>by have:=f5.lt;omega
 have er:¬ o=b2:=λe=>by omega
 have e8:=((gb.ext (d5.trans (ag.trans (bz.trans (bf.trans Z))))).ext ad);refine ρ ?_;refine drM (λk=>k=b2) ?_;refine Gw (fuel':=0) [(0,0),(0,1),(0,2),(0,3),(0,4),(0,5),(0,6),(0,7),(0,8),(0,10),(1,9),(1,11),(0,12),(0,13)] (lst 14 14) kr kr rfl ?_;refine ρn ?_;refine nld (Jr (e9.at (i:=2) rfl) e3) ?_;refine ρn ?_;refine nld (Jr (e9.at (i:=1) rfl) e3) ?_;refine ρn ?_;refine nslh f ?_ cj;refine ρn ?_;refine nld (Jr (hd.at (i:=9) rfl) er) ?_;refine ρn ?_;have ha:Rd au.drew 3 BA f (Qo f (Qr kf pf)):=by
  have h1:=(hF.bags.ext ad).take cj;rw[Qtq (sz:=3) (g:=Qr kf pf) (λ_ _=>rfl) cj]at h1;exact h1
 refine nop ?_;refine cl (Xkx (M:=λk=>k=b2∨k<w.heap.size) (hTB.ext (a1.trans ad)) fq om (Rd.ext hD (a1.trans ad)) ha (e4.ext ab) (λu hu=>((cp u hu).old λk C=>.inl (by rw[f8];exact .inr C)).ext ab) (ej.ext ab) (λk C=>by
  rcases C with C|C
  .rw[C];exact e8.lt
  exact nM C (a1.trans ad).size) (λu hu b hb=>?_) (λu hu=>?_)) ?_
 .split at hb
  .cases hb
  obtain⟨y,hy,e1,_⟩:=entL_ne.1 ((Jcp a2 hu).con b hb).2;have h1:=(bi u om y hy).1.2;rw[<-e1];exact⟨by have:=h1.1;rw[List.length_take];omega,λz hz=>h1.2 z (List.mem_of_mem_take hz)⟩
 .split
  .exact List.Pairwise.nil
  exact(Jcp a2 hu).lt
 rintro xi gg ⟨g0,h8,c7⟩;obtain⟨xD,ib,xB,ig,xK,ie,xP,ic,xt,_,_,rfl,_,_,_,_,_,_,⟨xT,ia,rfl,_⟩,_⟩:=h8.ex;refine ρ ?_;refine Ja (GrN.ext c7) ?_;refine ρn ?_;refine nop ?_;refine stW (e8.ext c7) ?_;intro gf f2 fk i0;have bh:GrN (λk=>k=b2) gg gf:=GrN.by fk λk C=>by injection C with C;exact C.symm
 refine ρ ?_;refine Ja bh ?_;refine ρn ?_;refine Gv ?_;refine mend kr ?_;refine ρ ?_;refine Qxz f2 ⟨bh.old ((a1.trans ad).trans c7) λk C=>by rw[C];exact nL ei.size gz,_,st,kf,pf,R,rfl,a2,?_⟩;rw[<-cd];exact(g0.gr (bh.mono λk _ C=>.inl C)).mono λk _ C=>.inr C
end Go.Proofs.YtgobkbeokaaplaaGreatDoor
namespace Go.Wk
open Go.RowKit Maps
variable {d n ty:Nat}
theorem dmlo{P:Program}{al:AL}{w:World}{Q:Exit->Act->World->Prop}{ops:Array Oper}{drest:List (Nat×Oper)}{pos:String}{aft:Array Edge}{tt:TT}[hT:Tab P tt]{t k e b m:Nat}{kd:TK}{f:Lit->Option Value}{x y:Operand}{key z:Value}{kl:Lit}(K:Keyed P k)(hM:MapS P k w b m f)(hz:Qa P e=some z)(hkey:keyOf P k key=some kl)(kk:WD P n ops Q drest ((d,.tuple #[(f kl).getD z,.bool (f kl).isSome])::al) w)(ht:tk tt t=some kd:=by rfl)(hk:kd.desc=.map k e:=by rfl)(hx:ev al x=some (.map (some b)):=by rfl)(hy:ev al y=some key:=by rfl)(hd:Nat.blt d n=true:=by rfl):
  WD P n ops Q ((0,⟨some d,.lookup t x y true,ty,pos,aft,none⟩)::drest) al w :=
 dy (λw' j a i=>by
  have:=((hM.ext j).look K (Yv hT.ok ht hk rfl) (Jfc hz w') hkey).1;simp[execOp,i.ev hx,i.ev hy,this]) hd kk
end Go.Wk
namespace Go.Proofs.YtgobkbeokaaplaaGreatDoor
open Go.RowKit Pl Go.Wk
attribute [local irreducible] WC WL QX WD WDB WP WN WG
variable {B0 c v:Nat}{A:Option Addr}{k y:Row}
def trK(bs:List BkT)(k:Row): Tr:=match bs.find? λb=>decide (b.1=k) with
 | some b=>b.2
 | none=>.nil
theorem Jdh(bs:List BkT)(k:Row): (trK bs k).toL=entK bs k:=by
 unfold trK entK;cases bs.find? λb=>decide (b.1=k)<;>rfl
theorem Qxf: ∀ {bs:List BkT} {k:Row} {i:Nat},Zr bs k=some i->∃ b,bs[i]?=some b/\trK bs k=b.2/\b∈bs
 | [],_,_,h=>by simp[Zr]at h
 | b::bs,k,i,h=>by
  unfold Zr at h;rw[List.findIdx?_cons]at h;by_cases e:b.1=k
  .grind [Option.some.injEq,trK,List.mem_cons_self]
  simp only[e,decide_false]at h;obtain⟨j,hj,rfl⟩:=Option.map_eq_some_iff.1 h;obtain⟨b',h1,h2,h3⟩:=Qxf (bs:=bs) (k:=k) hj;grind [trK,List.mem_cons_of_mem]
theorem Jhr{bs:List BkT}(h:Zr bs k=none): trK bs k=.nil:=by grind [Zr,List.findIdx?_eq_none_iff,List.find?_eq_none.2,trK]
theorem Qwn{s u:Nat}(h:s<2^u): ∀ k,u<=k->bk s k=bk s u
 | 0,hk=>by(have:u=0:=by omega);(rw[this])
 | k+1,hk=>by
  by_cases e:u=k+1
  .rw[e]
  rw[Gg,Qwn h k om];grind [Nat.testBit_lt_two_pow,Nat.lt_of_lt_of_le,Nat.pow_le_pow_right]
theorem Jvj(v:V)(w:World): (Instr.buildSlice 59 1 #[(0,v.val)]).run Tryz.prog w=.ok (.slice (some ⟨w.heap.size,0,none⟩) 1 1) (w.alloc (.cells v.cells.toArray 147)):=kr
section
variable {w:World} {x:Value} {f:Nat} {ds:List Bool} {kf:Nat->Nat} {pf:Nat->Int} {BB:Nat->List BkT} {tot:Nat}
theorem Jhg(h:IxV w x f ds kf pf BB tot): Ret Tryz.prog 65 [x] w λu w'=>u=.int .i64 (f:Int)/\Ext w w':=by
 obtain⟨DA,dc,BA,cb,KA,ck,PA,cp,Z,G,D,rfl,J,O,hD,hB,hK,hP,o,hv⟩:=h.ex;obtain⟨TA,tc,rfl,_⟩:=id o;refine enE Tryz.func65 Tryz.ntmps65 ?_;refine bxR ?_;intro U b j hb C;refine ldR (C.at (i:=0) rfl) ?_;refine ρ ?_;exact Jj ⟨rfl,j⟩
theorem Qqv(h:IxV w x f ds kf pf BB tot)(hv:v<f): Ret Tryz.prog 79 [x,.int .i64 (v:Int)] w λu w'=>u=.bool true/\Ext w w':=by
 obtain⟨DA,dc,BA,cb,KA,ck,PA,cp,tv,G,D,rfl,O,U,hD,hB,hK,hP,o,J⟩:=h.ex;obtain⟨TA,tc,rfl,_⟩:=id o;refine enE Tryz.func79 Tryz.ntmps79 ?_;refine bxR ?_;intro Z b j hb C;refine ktR 7 ?_ ?_
 .grind
 refine ldR (C.at (i:=0) rfl) ?_;refine ρ ?_;refine Jj ⟨?_,j⟩;grind
theorem Jhd(h:IxV w x f ds kf pf BB tot)(hn:Nb tot): Ret Tryz.prog 29 [x] w λu w'=>NatV w' u tot/\Fresh w u/\Ext w w':=by
 obtain⟨DA,dc,BA,cb,KA,ck,PA,cp,tv,O,J,rfl,U,Z,hD,hB,hK,hP,o,hv⟩:=h.ex;obtain⟨TA,tc,rfl,_⟩:=id o;refine enE Tryz.func29 Tryz.ntmps29 ?_;refine bxR ?_;intro w1 b j hb G;refine ldR (G.at (i:=4) rfl) ?_;refine clR (Jgm (o.ext j) hn.len) ?_;rintro u w2 ⟨h2,D,C⟩;refine ρ ?_;exact Jj ⟨h2,λad m c e=>nL j.size (D ad m c e),j.trans C⟩
theorem Jhh(h:IxV w x f ds kf pf BB tot): Ret Tryz.prog 147 [x] w λu w'=>(∃ A c,u=.slice A f c/\f<=c/\Rd w' 3 A f (Qo f (Qr kf pf))/\∀ ad,A=some ad->w.heap.size<=ad.block)/\Ext w w':=by
 obtain⟨DA,dc,BA,cb,KA,ck,PA,cp,tv,Z,U,rfl,a1,a2,hD,hB,hK,hP,C,hv⟩:=h.ex;obtain⟨TA,tc,rfl,_⟩:=id C;have a3:=h.f32;refine enE Tryz.func147 Tryz.ntmps147 ?_;refine bxR ?_;intro w1 b j hb O;refine ldR (O.at (i:=1) rfl) ?_;refine clR (Qks (hB.ext j) (Qxt _ _ _) om) ?_;rintro _ w2 ⟨⟨A2,c2,rfl,G,J,D⟩,o⟩;refine ρ ?_;exact Jj ⟨⟨A2,c2,rfl,G,J,λad e=>nL j.size (D ad e)⟩,j.trans o⟩
theorem zIntv: Qa Tryz.prog 3=some (.int .i64 0):=kr
theorem Xzj(w:World): (Instr.build 76 #[]).run Tryz.prog w=.ok (.agg #[.bool false,.pointer none]) w:=kr
theorem Jbp{w0:World}(hTB:TB B0 w)(h0:Ext w0 w)(h:IxV w0 x f ds kf pf BB tot)(hv:v<f)(hk:RdR w A k)(hfit:FitR k):
  Ret Tryz.prog 117 [x,.int .i64 (v:Int),.slice A k.length c] w λu w'=>∃ d p,u=.tuple #[.agg #[.bool d,.pointer p],.bool (Zr (BB v) k).isSome]/\TrV (λ_=>False) w0 (trK (BB v) k) (.pointer p)/\((Zr (BB v) k).isSome=true->d=ds.getD v false)/\Ext w w':=by
 obtain⟨DA,dc,BA,cb,KA,ck,PA,cp,tv,a7,ai,rfl,b4,b5,hD,hB,hK,hP,an,am⟩:=id h.ex;obtain⟨TA,tc,rfl,_⟩:=id an;obtain⟨au,mb,m,fm,b9,hm,⟨hM,_⟩,ar⟩:=am v hv;have ap:ai[v]?=some (.map (some mb)):=by grind
 have ab:a7[v]?=some (a7.getD v (.slice none 0 0)):=by
  have:=hK.len;grind
 refine enE Tryz.func117 Tryz.ntmps117 ?_;refine bxR ?_;intro w1 b U hb af;refine Jv Vl ?_;intro w2 b6 O ac av;refine Qq (af.ext O) ?_;refine clR (Qqv (h.ext (h0.trans (U.trans O))) hv) ?_;rintro _ w3 ⟨rfl,a4⟩;have aa:=(U.trans O).trans a4;have a2:Ext w3 w3.drew:=(Ext.refl w3).drew;have C:=aa.trans a2;have Z:=h0.trans C;have ag:=((af.ext O).ext a4).ext a2;refine drR (scq 13 [6]) ?_;refine Jz (ag.at (i:=3) rfl) ?_;refine Jc v (hP.ext Z) hv ?_;refine Jz ((hP.ext Z).cell ap) ?_;refine Jh (Jzn (r:=k) (hTB.ext C) (hk.ext C) (λu hu=>(hfit.2 u hu).1) (by have:=hfit.len;omega) (by have:=hfit.1;omega)) ?_;rintro _ w4 ⟨rfl,J⟩;refine⟨J,?_⟩;have D:=C.trans J;have o:=h0.trans D;refine ρd ?_;refine dmlo KS (hM.ext o) zIntv (Ga hfit) ?_;rw[ar];have a1:=((av.ext a4).ext a2).ext J;cases hix:Zr (BB v) k with
 | none=>
  refine ρd ?_;refine Zj (Xzj _) ?_;refine Xn a1 ?_;intro w5 G aq a3;refine ρ ?_;refine Vz G ⟨false,none,rfl,?_,(λh=>by cases h),a3 w D (nL U.size ac)⟩;rw[Jhr hix];rfl
 | some i=>
  obtain⟨bt,a6,ao,b7⟩:=Qxf hix;obtain⟨ps,GA,gc,ah,ay,b3,az,ae,b8,ad⟩:=au;have li:i<ps.length:=by have:=(List.getElem?_eq_some_iff.1 a6).1;rw[ah,List.length_map]at this;exact this
  obtain⟨z,hz⟩:∃ z,z=ps[i]:=⟨_,rfl⟩;have aj:z∈ps:=by rw[hz];exact List.getElem_mem li
  have ak:z.2=bt:=by
   rw[ah,List.getElem?_map,List.getElem?_eq_getElem li,<-hz]at a6;simpa using a6
  obtain⟨b2,kv,zq,ax,b1,a8⟩:=ad z aj;obtain⟨zp,rfl⟩:=a8.ptr;have a5:∀ j u,([.bool (ds.getD v false),.pointer zp]:List Value)[j]?=some u->w4.cell? (((adr GA (i*3)).add 1).add j)=some u:=λj u hu=>by
   have hj:j<2:=(List.getElem?_eq_some_iff.1 hu).1;rw[Xe,Xe,Nat.add_assoc];refine(ae.ext o).cell ?_;rw[Iu (p:=z) (λp hp=>(ad p hp).1) (by rw[hz];exact gE li) om,ax,Nat.add_comm];exact hu
  rw[ay]at ab;refine ρd ?_;refine ldR ((ag.ext J).at (i:=2) rfl) ?_;refine ixR v (hK.ext o) hv ?_;refine ldR ((hK.ext o).cell ab) ?_;refine Qp 3 i (ae.ext o) li ?_;refine Js (cs:=[.bool (ds.getD v false),.pointer zp]) a5 ?_;refine Xn a1 ?_;intro w5 G aq a3;have a9:=a3 w D (nL U.size ac);refine ρ ?_;refine Vz G ⟨_,zp,rfl,?_,λ_=>rfl,a9⟩;rw[ao,<-ak];exact a8
theorem Jhf(h:IxV w x f ds kf pf BB tot)(hv:v<f)(hy:RdR w A y)(hyc:y.length<=c)(hyl:y.length<=32)(hk:kf v<2^y.length):
  Ret Tryz.prog 118 [x,.int .i64 (v:Int),.slice A y.length c] w λu w'=>RowX w' (λk=>k<w.heap.size) u (pmR (bk (kf v) 32) y)/\Ext w w':=by
 obtain⟨DA,dc,BA,cb,KA,ck,PA,cp,tv,ao,an,rfl,au,av,hD,hB,hK,hP,ac,ap⟩:=id h.ex;obtain⟨TA,tc,rfl,_⟩:=id ac;have O:kf v<4294967296:=nM hk (Jxs hyl);have am:Qz (kf v)<=y.length:=Jql hk;have o:∀ {w'} (hx:Ext w w') j u,(Qr kf pf v)[j]?=some u->w'.cell? ((adr BA (v*3)).add j)=some u:=λhx j u hu=>by
  have hj:j<3:=by grind [Nat.lt_or_ge,List.getElem?_eq_none,Qr]
  rw[Xe];exact(hB.ext hx).cell ((Jqr (sz:=3) (λ_ _=>rfl) hv hj).trans hu)
 refine enE Tryz.func118 Tryz.ntmps118 ?_;refine bxR ?_;intro w1 b a5 hb a9;refine Qq a9 ?_;refine clR (Qqv (h.ext a5) hv) ?_;rintro _ w2 ⟨rfl,a4⟩;have D:=a5.trans a4;have a2:=a9.ext a4;refine ldR (a2.at (i:=1) rfl) ?_;refine Qp 3 v (hB.ext D) hv ?_;refine ldR (o D 1 _ rfl) ?_;refine clR (Qqq (kf v) O w2) ?_;rintro _ ab ⟨rfl,e2⟩;rw[e2];clear e2 ab;refine cfR ?_ ?_
 .grind
 refine Qk Jqt ?_;intro w3 b3 a1 ai ak;have U:=D.trans a1;have a8:=a2.ext a1;refine ldR (a8.at (i:=1) rfl) ?_;refine Qp 3 v (hB.ext U) hv ?_;refine ldR (o U 1 _ rfl) ?_;refine clR (Qqq (kf v) O w3) ?_;rintro _ aa ⟨rfl,e3⟩;rw[e3];clear e3 aa;refine ρ ?_;refine Jo (fun (u:Nat) (vk:Value)=>[(1,.int .i64 (v:Int)),(2,.slice A y.length c),(3,.pointer (some ⟨b,0,none⟩)),(7,vk),(32,.int .i64 (Qz (kf v):Int)),(33,.int .i64 (u:Int))])
  (λu vk w'=>u<=Qz (kf v)/\Ext w2 w'/\w'.ownsRow w2.heap.size 147 3 vk (bk (kf v) u).length (Jp (pmR (bk (kf v) u) y))) (λu _=>Qz (kf v)-u) 0 (.slice (some ⟨b3,0,none⟩) 0 0) sB
  ⟨Nat.zero_le _,a1,ak.own (n:=0) ai rfl (Nat.zero_le _)⟩ ?_
 rintro u vk w4 ⟨hu,C,J⟩;have G:=D.trans C;have a7:=a2.ext C;refine ciR (λh=>?_) (λh=>?_)
 .have lu:u<Qz (kf v):=by have:=oT h;omega
  clear h;refine ldR (a7.at (i:=1) rfl) ?_;refine Qp 3 v (hB.ext G) hv ?_;refine ldR (o G 1 _ rfl) ?_;refine ρ ?_;refine Ib (s:=kf v) (v:=u) om ?_;refine ρ ?_;rw[Gh O];refine ci (λh=>?_) (λh=>?_)
  .have a3:=hy.ext G;refine Qp 3 u a3 om ?_;refine Js (cs:=(y.getD u V0).cells) (λj u' a6=>RdR.cell a3 om a6) ?_;refine Qk (Jvj (y.getD u V0)) ?_;intro w5 b5 Z b1 aj;obtain⟨A3,c3,rfl,ax,af⟩:=Jy J;have ay:=Ya (kf v) u;refine ρ ?_;refine apb (m':=1) (news:=(y.getD u V0).cells) EV (Jk J Z) (aj.rd (n:=1) rfl) (V.one _) (by unfold maxLen;omega) om (C.trans Z).size ?_;intro v6 w6 aq ae ar;have e:bk (kf v) (u+1)=bk (kf v) u++[u]:=by rw[Gg,h];simp
   refine ρ ?_;refine Jl (u+1) v6 sO ⟨lu,Qg (C.trans Z) ae (λg eg=>(af g eg).1),?_⟩ om;grind [pmR,bk,kf,V0,List.length_append,List.length_singleton,rowC_app',Jp]
  have e:bk (kf v) (u+1)=bk (kf v) u:=by rw[Gg,h];simp
  refine ρ ?_;refine Jl (u+1) vk sO ⟨lu,C,by rw[e];exact J⟩ om
 have a6:u=Qz (kf v):=by have:=oF h;omega
 clear h;have e:bk (kf v) u=bk (kf v) 32:=by grind [Qwn,Jgt]
 rw[e]at J;obtain⟨A2,c2,rfl,ah,ag⟩:=Jy J;have az:=Ya (kf v) 32;refine ρ ?_;refine Jj ⟨⟨A2,c2,by rw[Qn],by rw[Qn];exact ah,by rw[Qn];omega,by unfold RdR;rw[Qn];exact Rd.own J,λ_ ad e=>?_⟩,G⟩;have:=(ag ad.block (by rw[e];simp[Value.ownBlock])).1;have:=D.size;omega
end
end Go.Proofs.YtgobkbeokaaplaaGreatDoor
namespace Go.Wk
open Go.RowKit
open Go.Maps (Keyed)
variable {f:Lit->Option Value}{b k m r:Nat}{x:Operand}
def RgS(P:Program)(k:TypeId)(w:World)(b r n:Nat)(f:Lit->Option Value)(left:Lit->Bool)(cnt:Nat): Prop :=
 ∃ D:DV,w.ranges P k RT b r n D left cnt/\(∀ kl,Maps.has D kl=(f kl).isSome)/\∀ kl zd,D.atKey kl zd=(match f kl with|some v=>.held v|none=>zd)
section
variable {P:Program} {k:TypeId} {w w':World} {b r n cnt:Nat} {f:Lit->Option Value} {left:Lit->Bool}
theorem RgS.gr{N:Nat->Prop}(h:RgS P k w b r n f left cnt)(hg:GrN N w w')(hb:¬ N b)(hr:¬ N r): RgS P k w' b r n f left cnt:=by
 obtain⟨D,G,U⟩:=h;have C:=G.owns.lt;have u:=G.lt;obtain⟨es,j,i,o,c0,e1,F,J,O,Z,rest⟩:=G;exact⟨D,⟨es,j,i,o,c0,(hg.block b C hb).trans e1,F,J,O,(hg.block r u hr).trans Z,rest⟩,U⟩
theorem RgS.ext(h:RgS P k w b r n f left cnt)(hx:Ext w w'): RgS P k w' b r n f left cnt:=h.gr (N:=λ_=>False) (GrN.ext hx) (λe=>e) (λe=>e)
theorem RgS.lt(h:RgS P k w b r n f left cnt): r<w.heap.size:=by obtain⟨D,i,_⟩:=h;exact i.lt
end
section
variable {P:Program} {n:Nat} {al:AL} {w:World} {Q:Exit->Act->World->Prop} {ops:Array Oper} {rest:List Oper}
variable {d ty:Nat} {pos:String} {aft:Array Edge} {tt:TT}
theorem rngm[hT:Tab P tt]{t e:Nat}{kd:TK}(K:Keyed P k)(hM:MapS P k w b m f)(kk:∀ w1 r cnt,Ext w w1->w.heap.size<=r->RgS P k w1 b r m f (λkl=>(f kl).isSome) cnt->WL P n ops Q rest ((d,.pointer (some ⟨r,0,none⟩))::al) w1)(ht:tk tt t=some kd:=by rfl)(hk:kd.desc=.map k e:=by rfl)(hx:ev al x=some (.map (some b)):=by rfl)(hd:Nat.blt d n=true:=by rfl):
  WL P n ops Q (⟨some d,.range t x,ty,pos,aft,none⟩::rest) al w:=by
 obtain⟨D,O,C,J⟩:=hM;obtain⟨w',j,u,o,_⟩:=O.range K (Yv hT.ok ht hk rfl);have U:Maps.has D=λkl=>(f kl).isSome:=funext C;rw[U]at u;refine wop hd (λa G=>?_) (kk w' w.heap.size _ ⟨o.os,o.tape,o.output,o.size,λi hi=>o.block i hi (by simp)⟩ (nR _) ⟨D,u,C,J⟩);simp[execOp,G.ev hx,j]
theorem nxtm{cnt:Nat}{left:Lit->Bool}(K:Keyed P k)(h:RgS P k w b r m f left cnt)(kd:(∀ kl,left kl=false)->WL P n ops Q rest ((d,.tuple #[.bool false])::al) w)(km:∀(key v:Value) (kl:Lit) (w1:World) (cnt':Nat),keyOf P k key=some kl->left kl=true->f kl=some v->RgS P k w1 b r m f (λz=>left z && !z.sameKey kl) cnt'->cnt'<cnt->GrN (λi=>i=r) w w1 ->
  (Instr.entry (.pointer (some ⟨r,0,none⟩))).run P w1=.ok (.tuple #[key,v]) w1->WL P n ops Q rest ((d,.tuple #[.bool true,key,v])::al) w1)(hx:ev al x=some (.pointer (some ⟨r,0,none⟩)):=by rfl)(hd:Nat.blt d n=true:=by rfl): WL P n ops Q (⟨some d,.next x false,ty,pos,aft,none⟩::rest) al w:=by
 obtain⟨D,h1,Z,G⟩:=h;rcases h1.next K ty with⟨h0,O,j⟩|⟨key,v,kl,y,w',cnt',hkey,hlk,hv,hat,j,hrg,hlt,hgr,hsz,hen⟩
 .exact wop hd (λa C=>by simp[execOp,C.ev hx,j]) (kd O)
 have J:y=(.held v,[]):=by simpa [RT] using hv.symm
 have U:f kl=some v:=by
  have o:=hat (.map []);rw[G,J]at o;cases hfk:f kl with
  | none=>rw[hfk]at o;cases o
  | some u=>rw[hfk]at o;injection o with o;rw[o]
 exact wop hd (λa C=>by simp[execOp,C.ev hx,j]) (km key v kl w' cnt' hkey hlk U ⟨D,hrg,Z,G⟩ hlt (GrN.by hgr λi hi=>by injection hi with hi;exact hi.symm) hen)
theorem entm{key v:Value}(hen:(Instr.entry (.pointer (some ⟨r,0,none⟩))).run P w=.ok (.tuple #[key,v]) w)(kk:WL P n ops Q rest ((d,.tuple #[key,v])::al) w)(hx:ev al x=some (.pointer (some ⟨r,0,none⟩)):=by rfl)(hd:Nat.blt d n=true:=by rfl): WL P n ops Q (⟨some d,.entry x,ty,pos,aft,none⟩::rest) al w :=
 wop hd (λa i=>by simp[execOp,i.ev hx,hen]) kk
end
end Go.Wk
namespace Go.Proofs.YtgobkbeokaaplaaGreatDoor
namespace Pl
variable {m n v:Nat}{x y:Row}
section
variable {α:Type} {X:AX α}
def AX.Gp(X:AX α)(y:List α): Prop:=∀ v,v<y.length->y.getD v X.d0∈(X.E v (X.key v (y.take v))).map (·.1)
theorem AX.Gp.nil: X.Gp []:=λv h=>by simp at h
theorem AX.Gp.snoc{y:List α}(h:X.Gp y){a:α}(ha:a∈(X.E y.length (X.key y.length y)).map (·.1)): X.Gp (y++[a]):=λv i=>by
 rw[List.length_append,List.length_singleton]at i;by_cases e:v=y.length
 .grind
 rw[Jww om,List.take_append_of_le_length om];exact h v om
theorem getD_take(d0:α){y:List α}(h:v<m): (y.take m).getD v d0=y.getD v d0:=by simp[List.getD,h]
theorem AX.Gp.pre{y:List α}(h:X.Gp y)(m:Nat): X.Gp (y.take m):=λv i=>by
 rw[List.length_take]at i;rw[getD_take X.d0 om,List.take_take,Nat.min_eq_left om];exact h v om
theorem Jrm(d0:α){y:List α}(h:y.length=n+1): y=y.take n++[y.getD n d0]:=by
 have e:y.getD n d0=y[n]:=by grind
 rw[e,<-List.take_succ_eq_append_getElem,List.take_of_length_le om]
theorem Qcq{l:List (α×Nat)}{p:α×Nat}(h:p∈l): p.2<=tot l:=by
 induction l with
 | nil=>cases h
 | cons q l ih=>
  grind [tot,List.mem_cons.1]
theorem AX.Ok.pend_snoc(h:X.Ok){y:List α}(hm:y.length<X.F){a:α}(ha:a∈(X.E y.length (X.key y.length y)).map (·.1)): X.pend (y.length+1) (y++[a])<=X.pend y.length y:=by
 obtain⟨p,i,rfl⟩:=List.mem_map.1 ha;rw[h.pend_next hm i,h.pend_split hm];exact nO _ (Qcq i)
theorem AX.Ok.pend_le(h:X.Ok): ∀(n:Nat) (y:List α),y.length=n->n<=X.F->X.Gp y->X.pend n y<=X.pend 0 []
 | 0,y,e,_,_=>by grind
 | n+1,y,e,hF,hg=>by
  have h1:=Jrm X.d0 e;have hl:(y.take n).length=n:=by grind
  have h2:=h.pend_le n (y.take n) hl om (hg.pre n);have h3:=h.pend_snoc (y:=y.take n) (a:=y.getD n X.d0) om (by rw[hl];exact hg n om);grind
theorem AX.Ok.others_le(h:X.Ok){y:List α}(hm:y.length<X.F)(hp:0<X.pend y.length y): 0<X.others y.length y/\X.others y.length y<=X.pend y.length y:=by
 rw[h.pend_split hm]at hp ⊢;have j:=Nat.pos_of_mul_pos_right hp;have i:=Nat.pos_of_mul_pos_left hp;refine⟨by grind,?_⟩;have:0<X.T y.length y:=by grind
 calc X.others y.length y=1*X.others y.length y:=(Nat.one_mul _).symm
  _<=_:=nO _ this
def AX.prodS(X:AX α)(S:Nat->Bool)(y:List α): Nat:=Jg X.F λc=>if S c=true then X.T c y else 1
end
theorem Lt.filter{ds:List Bool}{l:List Row}(h:Lt ds l)(q:Row->Bool): Lt ds (l.filter q):=h.sublist List.filter_sublist
section
variable {X:IX} {ds:List Bool}
theorem AX.gp_iff(hx:x∈X.ext n y)(hm:m<=y.length+n)(hg:X.Gp y): X.Gp (x.take m):=by
 obtain⟨u,o,j⟩:=(AX.ext_mem n y x).1 hx;intro v i;rw[List.length_take]at i;rw[getD_take X.d0 om,List.take_take,Nat.min_eq_left om];rcases Nat.lt_or_ge v y.length with h4|h4
 .have:=hg v h4;grind
 repeat grind
theorem AX.ext_gp(hx:x∈X.ext X.F [])(m:Nat): X.Gp (x.take m):=by
 have i:=((AX.ext_mem X.F [] x).1 hx).1;rw[List.length_nil,Nat.zero_add]at i;rcases Nat.lt_or_ge X.F m with h|h
 .rw[List.take_of_length_le om];have:=AX.gp_iff (m:=X.F) hx (by simp) AX.Gp.nil;grind
 repeat grind [AX.gp_iff,AX.Gp.nil]
theorem AX.Srt.within(h:X.Srt ds)(hy:y.length<=X.F)(hg:X.Gp y): (X.ext X.F []).filter (λx=>decide (x.take y.length=y))=X.ext (X.F-y.length) y:=by
 refine Jjs ((h.ext X.F [] (by simp)).filter _) (h.ext _ y om) λx=>?_;rw[List.mem_filter,AX.ext_mem,AX.ext_mem,decide_eq_true_eq];simp only[List.length_nil,Nat.zero_add,List.take_zero,true_and,Nat.zero_le,true_implies];constructor
 .grind
 rintro⟨u,i,o⟩;refine⟨⟨om,λv j=>?_⟩,i⟩;rcases Nat.lt_or_ge v y.length with h4|h4
 .have:=hg v h4;grind
 repeat grind
theorem AX.within_none(hg:¬ X.Gp y): (X.ext X.F []).filter (λx=>decide (x.take y.length=y))=[]:=by grind [List.filter_eq_nil_iff,AX.ext_gp]
end
end Pl
open Pl Go.Wk
variable {c m:Nat}{y:Row}
def Qs(f:Nat)(kf:Nat->Nat)(pf:Nat->Int)(BB:Nat->List BkT): IX:=⟨V0,f,λv=>bk (kf v) 32,pf,λv k=>entK (BB v) k⟩
structure IxP(f:Nat)(ds:List Bool)(kf:Nat->Nat)(pf:Nat->Int)(BB:Nat->List BkT)(tot:Nat)(L:List Row): Prop where
 len:tot=L.length
 nil:tot=0->∀ v,BB v=[]
 ok:tot≠0->(Qs f kf pf BB).Ok
 srt:tot≠0->(Qs f kf pf BB).Srt ds
 ans:tot≠0->L=(Qs f kf pf BB).ext f []
 big:∀ v k,(trK (BB v) k).sum<=4294967296^20
 siz:∀ v k,(trK (BB v) k).sz<=65536
 fit:∀ v b,b∈BB v->∀ p∈b.2.toL,Zl p.1/\p.1.bytes.length<=24
 f32:f<=32
 kv:∀ v,v<f->kf v<2^v
section
variable {f:Nat} {ds:List Bool} {kf:Nat->Nat} {pf:Nat->Int} {BB:Nat->List BkT} {tot:Nat} {L:List Row}
theorem Qvd(c:Nat)(y:Row): (Qs f kf pf BB).T c y=(trK (BB c) (pmR (bk (kf c) 32) y)).sum:=by
 rw[Tr.sum_eq,Jdh];rfl
theorem Qvf(c:Nat)(k:Row): (Qs f kf pf BB).E c k=(trK (BB c) k).toL:=by rw[Jdh];rfl
theorem IxP.one(h:IxP f ds kf pf BB tot L)(v:Nat)(k:Row)(p:V×Nat)(hp:p∈(trK (BB v) k).toL): Zl p.1/\p.1.bytes.length<=24:=by
 unfold trK at hp;cases hf:(BB v).find? λb=>decide (b.1=k) with
 | none=>rw[hf]at hp;cases hp
 | some b=>rw[hf]at hp;exact h.fit v b (List.mem_of_find?_eq_some hf) p hp
theorem IxP.gp(h:IxP f ds kf pf BB tot L)(hg:(Qs f kf pf BB).Gp y): ∀ u∈y,Zl u/\u.bytes.length<=24:=λu j=>by
 obtain⟨i,hi,rfl⟩:=List.getElem_of_mem j;have:=hg i hi;rw[Qvf]at this;obtain⟨p,o,e⟩:=List.mem_map.1 this;have C:y.getD i (Qs f kf pf BB).d0=y[i]:=by simp[List.getD,hi]
 rw[C]at e;rw[<-e];exact h.one _ _ p o
theorem fit0: Zl V0/\V0.bytes.length<=24:=⟨⟨⟨by decide,by decide⟩,⟨by decide,by decide⟩⟩,by decide⟩
theorem IxP.fitK(h:IxP f ds kf pf BB tot L)(hg:(Qs f kf pf BB).Gp y)(c:Nat): FitR (pmR (bk (kf c) 32) y):=by
 refine⟨by grind [Qn,Ya],λv j=>?_⟩;obtain⟨i,_,rfl⟩:=List.mem_map.1 j;simp only[List.getD];cases hi:y[i]? with
 | none=>exact fit0
 | some u=>exact h.gp hg u (List.mem_of_getElem? hi)
theorem IxP.pend0(h:IxP f ds kf pf BB tot L)(h0:tot≠0): (Qs f kf pf BB).pend 0 []=tot:=by
 have:=(h.ok h0).ext_len f [] (by simp;rfl);rw[<-h.ans h0,<-h.len]at this;exact this.symm
theorem IxP.keyb(h:IxP f ds kf pf BB tot L)(h0:tot≠0)(hc:c<f)(hp:pf c<(m:Int)): kf c<2^m:=by
 refine Nat.lt_pow_two_of_testBit _ λi hi=>?_;cases hb:(kf c).testBit i with
 | false=>rfl
 | true=>
  have j:i<32:=by
   rcases Nat.lt_or_ge i 32 with h'|h'
   .exact h'
   rw[Nat.testBit_lt_two_pow (nM (h.kv c hc) (Nat.pow_le_pow_right (n:=2) (by decide) (show c<=i by have:=h.f32;omega)))]at hb;cases hb
  have:(i:Int)<=pf c:=(h.ok h0).kl c hc i (bk_mem.2 ⟨j,hb⟩);omega
theorem IxP.par(h:IxP f ds kf pf BB tot L)(h0:tot≠0)(hc:c<f): -1<=pf c/\pf c<(c:Int):=(h.ok h0).pl c hc
end
end Go.Proofs.YtgobkbeokaaplaaGreatDoor
namespace Go.Wk
open Go.RowKit
open Go.Maps (Keyed)
variable {key v:Value}
section
variable {P:Program} {n:Nat} {al:AL} {w:World} {Q:Exit->Act->World->Prop} {ops:Array Oper} {rest:List Oper} {d ty:Nat} {op:Op} {pos:String} {aft:Array Edge} {tt:TT}
theorem wopv{w':World}(h:∀ a,Fr n al a->(execOp a.eval ⟨none,op,ty,pos,aft,none⟩).run P w=.ok (.value v) w')(k:WL P n ops Q rest al w'):
  WL P n ops Q (⟨none,op,ty,pos,aft,none⟩::rest) al w:=λa i=>
 wpList_plain rfl λK j=>by
  unfold Oper.wp;rw[h a i,Oper.upon_value];exact j _ _ (k _ i)
theorem mdn[hT:Tab P tt]{t k e b m:Nat}{kd:TK}{f:Lit->Option Value}{x y:Operand}{kl:Lit}(K:Keyed P k)(hM:MapS P k w b m f)(hkey:keyOf P k key=some kl)(kk:∀ w1,MapS P k w1 b m (upL f kl none)->w.grownBy w1 (some b)->WL P n ops Q rest al w1)(ht:tk tt t=some kd:=by rfl)(hk:kd.desc=.map k e:=by rfl)(hx:ev al x=some (.map (some b)):=by rfl)(hy:ev al y=some key:=by rfl):
  WL P n ops Q (⟨none,.call { callee:=.builtin .delete,args:=#[x,y],argTypes:=#[t,k] },ty,pos,aft,none⟩::rest) al w:=by
 obtain⟨w',j,u,o⟩:=hM.drop K (Yv hT.ok ht hk rfl) hkey ty;exact wopv (v:=.tuple #[]) (w':=w') (λa i=>by simp[execOp,resolve,invoke,builtin,i.ev hx,i.ev hy,j]) (kk w' u o)
end
end Go.Wk
namespace Go.Proofs.YtgobkbeokaaplaaGreatDoor
open Go.RowKit Pl Go.Wk
attribute [local irreducible] WC WL QX WD WDB WP WN WG
variable {M' c c' f m':Nat}{S':Nat->Bool}{BA p:Option Addr}
theorem KI: Maps.Keyed Tryz.prog 3:=Maps.int_keyed Tryz.underlying3
theorem Jqm(hc:c<=1000000): keyOf Tryz.prog 3 (.int .i64 (c:Int))=some (.int .i64 (c:Int)):=Maps.keyOf_int_mk Tryz.underlying3 (by
 have j:IntKind.i64.min = -9223372036854775808:=by decide
 have i:IntKind.i64.max=9223372036854775807:=by decide
 simp only[Lit.wf,Bool.and_eq_true,decide_eq_true_eq,j,i];omega)
theorem Qyl: Qa Tryz.prog 76=some (.agg #[.bool false,.pointer none]):=Vl
structure SeK where
 B0: Nat
 w0:World
 w1:World
 mb:Nat
 sb:Nat
 x0:Value
 x1:Value
 x2:Value
 x3:Value
 x4:Value
 BA:Option Addr
 bc:Nat
 f:Nat
 ds:List Bool
 kf:Nat->Nat
 pf:Nat->Int
 BB:Nat->List BkT
 tot:Nat
 L:List Row
def SeK.x(K:SeK): Value:=.agg #[K.x0,K.x1,K.x2,K.x3,K.x4]
def SeK.X(K:SeK): IX:=Qs K.f K.kf K.pf K.BB
def SeK.t(K:SeK)(c:Nat)(y:Row): Tr:=trK (K.BB c) (pmR (bk (K.kf c) 32) y)
theorem SeK.T(K:SeK)(c:Nat)(y:Row): K.X.T c y=(K.t c y).sum:=Qvd c y
theorem SeK.E(K:SeK)(c:Nat)(y:Row): K.X.E c (K.X.key c y)=(K.t c y).toL:=Qvf c _
def PdF(K:SeK)(y:Row)(S:Nat->Bool)(fm:Lit->Option Value): Prop :=
 (∀ c,c<K.f->S c=true->∃ d p,fm (.int .i64 (c:Int))=some (.agg #[.bool d,.pointer p])/\TrV (λ_=>False) K.w0 (K.t c y) (.pointer p)/\(K.t c y≠.nil->d=K.ds.getD c false)) /\
 ∀ kl,fm kl≠none->∃ c:Nat,c<K.f/\S c=true/\kl=.int .i64 (c:Int)
structure SeF(K:SeK): Prop where
 tb:TB K.B0 K.w0
 ix:IxV K.w0 K.x K.f K.ds K.kf K.pf K.BB K.tot
 ip:IxP K.f K.ds K.kf K.pf K.BB K.tot K.L
 ne:K.tot≠0
 e01:Ext K.w0 K.w1
 m1:K.w0.heap.size<=K.mb
 m2:K.mb<K.w1.heap.size
 s1:K.w1.heap.size<=K.sb
 bcl:K.f<=K.bc
 bg:Off (λk=>k=K.mb) K.w1 (λu=>Rd u 3 K.BA K.f (Qo K.f (Qr K.kf K.pf)))
 one:∀ u∈[K.x0,K.x1,K.x2,K.x3,K.x4],u.oneCell'=true
def sCs(K:SeK)(yv:Value)(st:Nat): List Value:=[K.x0,K.x1,K.x2,K.x3,K.x4,.slice K.BA K.f K.bc,yv,.map (some K.mb),.int .i64 (st:Int)]
structure SeM(K:SeK)(w:World)(y:Row)(S:Nat->Bool)(st M:Nat)(yv:Value)(m:Nat)(fm:Lit->Option Value): Prop where
 gr:GrN (λk=>k=K.mb) K.w1 w
 blk:Blk w K.sb 241 (sCs K yv st)
 row:w.ownsRow K.w1.heap.size 147 3 yv y.length (Jp y)
 map:MapS Tryz.prog 3 w K.mb m fm
 mle:m<=M
 pd:PdF K y S fm
def LoB(K:SeK)(B:Nat)(yv:Value): Prop:=K.sb<B/\∀ g,yv.ownBlock=some g->g<B
def SeV(K:SeK)(w:World)(y:Row)(S:Nat->Bool)(st M B:Nat): Prop:=∃ yv m fm,SeM K w y S st M yv m fm/\LoB K B yv
section
variable {K:SeK} {w w':World} {y:Row} {S:Nat->Bool} {st M m B:Nat} {yv:Value} {fm:Lit->Option Value}
theorem SeF.nsm(hF:SeF K): ¬ K.sb=K.mb:=λe=>by have:=hF.m2;have:=hF.s1;omega
theorem SeF.ext(hF:SeF K)(h:GrN (λk=>k=K.mb) K.w1 w): Ext K.w0 w:=h.old hF.e01 λk i=>by rw[i];exact hF.m1
theorem SeM.ext'(h:SeM K w y S st M yv m fm)(hx:Ext w w'): SeM K w' y S st M yv m fm :=
 ⟨h.gr.trans (GrN.ext hx),h.blk.ext hx,Jk h.row hx,h.map.ext hx,h.mle,h.pd⟩
theorem SeM.x5(h:SeM K w y S st M yv m fm)(j:Nat)(u:Value)(hu:[K.x0,K.x1,K.x2,K.x3,K.x4][j]?=some u): w.cell? ((⟨K.sb,0,none⟩:Addr).add j)=some u :=
 Blk.pre (cs:=[K.x0,K.x1,K.x2,K.x3,K.x4]) (ds:=[.slice K.BA K.f K.bc,yv,.map (some K.mb),.int .i64 (st:Int)]) h.blk j u hu
theorem SeV.ext(h:SeV K w y S st M B)(hx:Ext w w'): SeV K w' y S st M B:=by
 obtain⟨yv,m,fm,h,i⟩:=h;exact⟨yv,m,fm,h.ext' hx,i⟩
theorem SeV.top(h:SeV K w y S st M B): SeV K w y S st M w.heap.size:=by
 obtain⟨yv,m,fm,h,o⟩:=h;obtain⟨_,_,_,_,i⟩:=Jy h.row;exact⟨yv,m,fm,h,h.blk.lt,λg j=>(i g j).2⟩
theorem SeM.to(hF:SeF K)(h:SeM K w y S st M yv m fm)(hg:GrN (λk=>k=K.mb) w w'){fm':Lit->Option Value}(hM:MapS Tryz.prog 3 w' K.mb m' fm')(hm:m'<=M')(hp:PdF K y S' fm'): SeM K w' y S' st M' yv m' fm':=by
 refine⟨h.gr.trans hg,Jb h.blk hg hF.nsm,Jt h.row hg λg j e=>?_,hM,hm,hp⟩;obtain⟨_,_,_,_,i⟩:=Jy h.row;have:=(i g j).1;have:=hF.m2;omega
theorem SeV.same(h:SeV K w y S st M B)(e:∀ c,c<K.f->S c=S' c): SeV K w y S' st M B:=by
 obtain⟨yv,m,fm,h,C⟩:=h;refine⟨yv,m,fm,⟨h.gr,h.blk,h.row,h.map,h.mle,λc i o=>h.pd.1 c i ((e c i).trans o),λj u=>?_⟩,C⟩;obtain⟨c,J,G,D⟩:=h.pd.2 j u;grind
theorem SeV.more(h:SeV K w y S st M B)(hM:M<=M'): SeV K w y S st M' B:=by
 obtain⟨yv,m,fm,h,i⟩:=h;exact⟨yv,m,fm,⟨h.gr,h.blk,h.row,h.map,Nat.le_trans h.mle hM,h.pd⟩,i⟩
theorem Jbn(hc:c<=1000000): WideAt.IsKeyLit (.int .i64 (c:Int)):=KI.key (Jqm hc)
theorem Jbj(h:Lit.int .i64 (c:Int)=.int .i64 (c':Int)): c=c':=by grind
theorem PdF.put(h:PdF K y S fm)(hf:K.f<=32)(hc:c<K.f){d:Bool}(ht:TrV (λ_=>False) K.w0 (K.t c y) (.pointer p))(hd:K.t c y≠.nil->d=K.ds.getD c false):
  PdF K y (λj=>S j || decide (j=c)) (upL fm (.int .i64 (c:Int)) (some (.agg #[.bool d,.pointer p]))):=by
 constructor
 .intro j C u;by_cases e:j=c
  .subst e;rw[Kz (Jbn om)];exact⟨d,p,rfl,ht,hd⟩
  rw[Ub λD=>e (Jbj D)];exact h.1 j C (by simpa [e] using u)
 intro i o;by_cases e:i=.int .i64 (c:Int)
 .grind
 rw[Ub e]at o;obtain⟨j,O,J,G⟩:=h.2 i o;grind
theorem PdF.drop(h:PdF K y S fm)(hf:K.f<=32)(hc:c<K.f): PdF K y (λj=>S j && !decide (j=c)) (upL fm (.int .i64 (c:Int)) none):=by
 constructor
 .intro j C i;simp only[Bool.and_eq_true,Bool.not_eq_true',decide_eq_false_iff_not]at i;rw[Ub λD=>i.2 (Jbj D)];exact h.1 j C i.1
 intro o u;by_cases e:o=.int .i64 (c:Int)
 .grind [Kz,Jbn]
 rw[Ub e]at u;obtain⟨j,O,J,G⟩:=h.2 o u;grind
theorem SeK.t_app(hF:SeF K)(hc:c<K.f)(hp:K.pf c<(y.length:Int))(z:Row): K.t c (y++z)=K.t c y:=by
 have:=(hF.ip.ok hF.ne).key_pre (y:=y) (z:=z) hc hp;unfold SeK.t;exact congrArg (trK (K.BB c)) this
theorem PdF.app(h:PdF K y S fm)(hF:SeF K)(hS:∀ c,c<K.f->S c=true->K.pf c<(y.length:Int))(z:Row): PdF K (y++z) S fm:=by
 refine⟨λc i j=>?_,h.2⟩;rw[SeK.t_app hF i (hS c i j)];exact h.1 c i j
theorem Qwx{kf:Nat->Nat}{pf:Nat->Int}(hR:Rd w 3 BA f (Qo f (Qr kf pf)))(hc:c<f): ∀ j u,(Qr kf pf c)[j]?=some u->w.cell? ((adr BA (c*3)).add j)=some u:=λj u i=>by
 have o:j<3:=by grind [Nat.lt_or_ge,List.getElem?_eq_none,Qr]
 rw[Xe];exact hR.cell ((Jqr (sz:=3) (λ_ _=>rfl) hc o).trans i)
theorem Qvs(hF:SeF K)(hS:SeV K w y S st M B)(hM:M<=4096)(hg:K.X.Gp y)(hyf:y.length<=K.f){v:Int}(hv:v+1=(y.length:Int)):
  Ret Tryz.prog 177 [.pointer (some ⟨K.sb,0,none⟩),.int .i64 v] w λu w'=>u=.tuple #[]/\GrN (λk=>k=K.mb) w w'/\SeV K w' y (λc=>S c || decide (K.pf c=v)) st (M+K.f) B:=by
 have b4:=hF.ip.f32;obtain⟨an,m0,b3,H0,ad⟩:=id hS;refine enE Tryz.func177 Tryz.ntmps177 ?_;refine ldR (H0.blk.at (i:=5) rfl) ?_;refine ρ ?_;refine Qy (fun (c:Nat)=>[(0,.pointer (some ⟨K.sb,0,none⟩)),(1,.int .i64 v),(11,.slice K.BA K.f K.bc),(12,.int .i64 (K.f:Int)),(13,.int .i64 (c:Int))])
  (λc w'=>c<=K.f/\GrN (λk=>k=K.mb) w w'/\SeV K w' y (λj=>S j || (decide (j<c) && decide (K.pf j=v))) st (M+c) B) (λc=>K.f-c) 0 sB
  ⟨Nat.zero_le _,GrN.refl _ _,hS.same λc _=>by simp⟩ ?_
 clear ad H0 an m0 b3;rintro c w1 ⟨hc,a8,a9⟩;refine ciR (λh=>?_) (λh=>?_)
 .have O:c<K.f:=by have:=oT h;omega
  clear h;obtain⟨yv,m,fm,H,ar⟩:=id a9;have ag:=hF.bg w1 H.gr;refine Qp 3 c ag O ?_;refine Js (cs:=Qr K.kf K.pf c) (Qwx ag O) ?_;refine Jv Jkk ?_;intro w2 bb aq ay b2;refine Qb (cs':=Qr K.kf K.pf c) b2 ?_ Jxz;intro w3 am af ap;have J:Ext w1 w3:=ap w1 aq ay;refine ldR (am.at (i:=2) rfl) ?_;refine ciR (λh=>?_) (λh=>?_)
  .have hp:K.pf c=v:=Zx h;clear h;have H3:=H.ext' J;have ac:=hF.ext H3.gr;have a3:Ext w3 w3.drew:=(Ext.refl w3).drew;have Hd:=H3.ext' a3;have D:=ac.trans a3;obtain⟨YA,yc,rfl,aa,_⟩:=Jy Hd.row;have ae:=hF.ip.keyb hF.ne O (m:=y.length) (by rw[hp];omega);have U:=hF.ip.fitK hg c;refine ρ ?_;refine drH (λi=>Nat.ble 20 i) ?_;refine Zs (fuel':=8) 10 [(0,0),(0,1),(0,2),(0,3),(0,4),(0,5),(0,6),(0,7),(0,8),(0,9),(0,10),(0,11),(0,12),(0,13)] (lst 22 14) kr kr rfl ?_;refine Qh (cs:=[K.x0,K.x1,K.x2,K.x3,K.x4]) (λj u hu=>Hd.x5 j u hu) ?_;refine Qh (cs:=[K.x0,K.x1,K.x2,K.x3,K.x4]) (λj u hu=>Hd.x5 j u hu) ?_;refine Jz (Hd.blk.at (i:=6) rfl) ?_;refine ρd ?_;refine Xy ?_;refine Jwt 2 (lst 22 20) (fun (q:Bool×Option Addr×Bool×Nat)=>[(39,.agg #[.bool q.1,.pointer q.2.1]),(40,.bool q.2.2.1),(6,.pointer (some ⟨q.2.2.2,0,none⟩)),(4,.int .i64 (c:Int)),(0,.pointer (some ⟨K.sb,0,none⟩)),(1,.int .i64 v),(11,.slice K.BA K.f K.bc),(12,.int .i64 (K.f:Int)),(13,.int .i64 (c:Int))])
    (λq W=>Ext w3.drew W/\Blk W q.2.2.2 76 [.bool false,.pointer none]/\w3.drew.heap.size<=q.2.2.2/\TrV (λ_=>False) K.w0 (K.t c y) (.pointer q.2.1)/\(K.t c y≠.nil->q.1=K.ds.getD c false)) ?_ ?_
   .rintro⟨d,p,e,b6⟩ W ⟨ao,ak,ah,hT,hd⟩;simp only at ak ah hT hd;refine Zs (fuel':=0) 10 [(2,20),(2,21)] (lst 22 22) kr kr rfl ?_;refine Qj ?_;refine stW ak ?_;intro W2 aj b5 ab;refine Jd (Qu ?_);refine Qj ?_;refine ρ ?_;refine Qu ?_;refine Zc (Xy ?_);refine Uw kr ?_;have a5:Ext w3 W2:=ab w3 (a3.trans ao) (nL a3.size ah);have HW:=H3.ext' (a5.trans ((Ext.refl W2).drew));have ai:=aj.ext ((Ext.refl W2).drew);refine ρ ?_;refine drN (λ_=>False) 10 (scq 7 [106]) kr ?_;refine ρn ?_;refine nld (Jr (HW.blk.at (i:=7) rfl) (λe=>e)) ?_;refine ρn ?_;refine Xr (cs:=[.bool d,.pointer p]) (λw' hg j u hu=>(Jb ai hg (λe=>e)).at hu) ?_;refine ρn ?_;refine Xh ?_;refine mup KI HW.map (by have:=HW.mle;unfold maxLen;omega) (Jqm (c:=c) om) ?_;intro W3 b1 af;have a7:GrN (λk=>k=K.mb) W2.drew W3:=GrN.by af λk hk=>by injection hk with hk;exact hk.symm
    have az:=HW.to hF a7 b1 (M':=M+(c+1)) (by have:=HW.mle;omega) (HW.pd.put b4 O hT hd);refine ρ ?_;refine Qw (c+1) sO ⟨O,((a8.trans (GrN.ext J)).trans (GrN.ext (a5.trans (Ext.refl W2).drew))).trans a7,SeV.same ⟨_,_,_,az,ar⟩ λj _=>?_⟩ om;by_cases e:j=c
    .subst e;simp[hp]
    have:(decide (j<c+1))=decide (j<c):=by by_cases h1:j<c<;>simp[h1]<;>omega
    rw[this];simp[e]
   intro rest;have Z:∀ {d:Bool},((Zr (K.BB c) (pmR (bk (K.kf c) 32) y)).isSome=true->d=K.ds.getD c false)->K.t c y≠.nil->d=K.ds.getD c false:=fun {d} h hne=>h (by
    cases hi:Zr (K.BB c) (pmR (bk (K.kf c) 32) y) with
    | none=>exact absurd (Jhr hi) hne
    | some i=>rfl)
   have a6:=Rd.own Hd.row;refine htwo 14 19 kr rfl rfl rfl ?_ ?_
   .refine clR (Jhf (hF.ix.ext D) O a6 aa om ae) ?_;rintro uk W1 ⟨⟨KA,kc,rfl,av,au,a4,_⟩,o⟩;refine Jd (Ip o ?_);refine htwo 15 19 kr rfl rfl rfl ?_ ?_
    .refine clR (Jbp (hF.tb.ext (D.trans o)) (D.trans o) hF.ix O a4 U) ?_;rintro u W2 ⟨d,p,rfl,hT,hd,C⟩;refine Jd (Ip C ?_);refine Zs (fuel':=4) 10 [(0,16),(0,17)] (lst 22 18) kr kr rfl ?_;refine ρd ?_;refine Xy ?_;refine Uk (fuel':=3) 18 kr kr rfl rfl ?_;refine ρp ?_;refine ρd ?_;refine Xy ?_;refine Zs (fuel':=2) 10 [(1,19)] (lst 22 20) kr kr rfl ?_;refine dalc' (cs:=[.bool false,.pointer none]) Vl ?_;intro W3 b6 G a1 a2;refine Zc (Xy ?_);exact rest (d,p,_,b6) _ _ ⟨(o.trans C).trans G,a2,Nat.le_trans (o.trans C).size a1,hT,Z hd⟩ sB
    refine Jv Vl ?_;intro W2 b6 C a1 a2;refine Jd (Ip C ?_);refine Zs (fuel':=3) 10 [(1,15),(0,16),(0,17)] ((lst 22 18).setIfInBounds 19 true) kr kr rfl ?_;refine Jh (Jbp (hF.tb.ext ((D.trans o).trans C)) ((D.trans o).trans C) hF.ix O (a4.ext C) U) ?_;rintro u W3 ⟨d,p,rfl,hT,hd,G⟩;refine⟨G,?_⟩;refine ρd ?_;refine Xy ?_;refine Uk (fuel':=2) 18 kr kr rfl rfl ?_;refine ρp ?_;refine ρd ?_;refine Xy ?_;refine hlist (listed':=lst 22 20) kr ?_;exact rest (d,p,_,b6) _ _ ⟨(o.trans C).trans G,a2.ext G,Nat.le_trans o.size a1,hT,Z hd⟩ sB
   refine Jv Vl ?_;intro W1 b6 o a1 a2;refine Jd (Ip o ?_);refine Zs (fuel':=3) 10 [(1,14),(1,15),(0,16),(0,17)] ((lst 22 18).setIfInBounds 19 true) kr kr rfl ?_;refine Jh (Jhf (hF.ix.ext (D.trans o)) O (Rd.ext a6 o) aa om ae) ?_;rintro uk W2 ⟨⟨KA,kc,rfl,av,au,a4,_⟩,C⟩;refine⟨C,?_⟩;refine Jh (Jbp (hF.tb.ext ((D.trans o).trans C)) ((D.trans o).trans C) hF.ix O a4 U) ?_;rintro u W3 ⟨d,p,rfl,hT,hd,G⟩;refine⟨G,?_⟩;refine ρd ?_;refine Xy ?_;refine Uk (fuel':=2) 18 kr kr rfl rfl ?_;refine ρp ?_;refine ρd ?_;refine Xy ?_;refine hlist (listed':=lst 22 20) kr ?_;exact rest (d,p,_,b6) _ _ ⟨(o.trans C).trans G,(a2.ext C).ext G,a1,hT,Z hd⟩ sB
  have hp:¬ K.pf c=v:=Xu h;clear h;refine ρ ?_;refine Qw (c+1) sO ⟨O,a8.trans (GrN.ext J),((a9.ext J).same λj _=>?_).more om⟩ om;by_cases e:j=c
  .subst e;simp[hp]
  have:(decide (j<c+1))=decide (j<c):=by by_cases h1:j<c<;>simp[h1]<;>omega
  rw[this]
 have ax:c=K.f:=by have:=oF h;omega
 subst ax;clear h;refine ρ ?_;refine Ys ⟨rfl,a8,a9.same λj hj=>?_⟩;simp[hj]
theorem Qvp(hF:SeF K)(hS:SeV K w y S st M B)(hyf:y.length<K.f)(hs:S y.length=true):
  Ret Tryz.prog 140 [.pointer (some ⟨K.sb,0,none⟩)] w λu w'=>(∃ d p,u=.agg #[.bool d,.pointer p]/\TrV (λ_=>False) K.w0 (K.t y.length y) (.pointer p)/\(K.t y.length y≠.nil->d=K.ds.getD y.length false))/\GrN (λk=>k=K.mb) w w'/\SeV K w' y (λc=>S c && !decide (c=y.length)) st M B:=by
 have ad:=hF.ip.f32;obtain⟨yv,m,fm,H,a2⟩:=id hS;obtain⟨d,p,a6,ht,hd⟩:=H.pd.1 y.length hyf hs;obtain⟨YA,yc,rfl,af,_⟩:=Jy H.row;refine enE Tryz.func140 Tryz.ntmps140 ?_;refine Jv Vl ?_;intro w1 b1 J ai ac;have Z:=H.ext' J;refine ldR (Z.blk.at (i:=6) rfl) ?_;refine ldR (Z.blk.at (i:=7) rfl) ?_;refine ρ ?_;refine mlk KI Z.map Vl (Jqm (c:=y.length) om) ?_;rw[a6];refine Jv Vl ?_;intro w2 b2 O a7 ab;refine Xn ab ?_;intro w3 aa ah a1;have o:Ext w1 w3:=a1 w1 O a7;have H3:=Z.ext' o;refine ldR (H3.blk.at (i:=7) rfl) ?_;refine ρ ?_;refine mdn KI H3.map (Jqm (c:=y.length) om) ?_;intro w4 a8 a5;have C:GrN (λk=>k=K.mb) w3 w4:=GrN.by a5 λk j=>by injection j with j;exact j.symm
 have ae:K.mb<w.heap.size:=H.map.lt;have l1:=J.size;have l2:=O.size;have n1:¬ b1=K.mb:=om
 have n2:¬ b2=K.mb:=om
 have U:=Jb aa C n2;refine Qq U ?_;refine Xn (Jb (ac.ext o) C n1) ?_;intro w5 a9 a4 ag;have a3:GrN (λk=>k=K.mb) w w4:=((GrN.ext J).trans (GrN.ext o)).trans C;have G:GrN (λk=>k=b1) w4 w5:=GrN.by a4 λk j=>by injection j with j;exact j.symm
 have D:GrN (λk=>k=K.mb) w w5:=((a3.mono λk _ j=>(.inl j:k=K.mb∨k=b1)).trans (G.mono λk _ j=>.inr j)).mono λk j h=>h.elim id λe=>by omega
 refine ρ ?_;refine Gu a9 ⟨⟨d,p,rfl,ht,hd⟩,D,_,m,_,H.to hF D (a8.gr G (λe=>n1 e.symm)) H.mle (H.pd.drop ad hyf),a2⟩
theorem Qvq(hF:SeF K)(hS:SeV K w y S st M B)(hM:M<=4096)(hyf:y.length<K.f)(v:V)(hg:K.X.Gp (y++[v]))(hSp:∀ c,c<K.f->S c=true->K.pf c<(y.length:Int)):
  Ret Tryz.prog 142 [.pointer (some ⟨K.sb,0,none⟩),v.val] w λu w'=>u=.tuple #[]/\GrN (λk=>k<B) w w'/\SeV K w' (y++[v]) (λc=>S c || decide (K.pf c=(y.length:Int))) st (M+K.f) w'.heap.size:=by
 have ap:=hF.ip.f32;obtain⟨yv,m,fm,H,a3⟩:=id hS;obtain⟨YA,yc,rfl,ak,U⟩:=Jy H.row;refine enE Tryz.func142 Tryz.ntmps142 ?_;refine bxR (cs:=v.cells) ?_;intro w1 b1 a4 ao ag;have Z:Ext w1 w1.drew:=(Ext.refl w1).drew;have Hd:=H.ext' (a4.trans Z);have aa:=ag.ext Z;have n1:¬ (Value.slice YA y.length yc).ownBlock=some b1:=λe=>by have:=(U b1 e).2;omega
 have ns:¬ (Value.slice YA y.length yc).ownBlock=some K.sb:=λe=>(Blk.ne_own Hd.blk Hd.row rfl) e.symm;refine ρ ?_;refine drN (λk=>(Value.slice YA y.length yc).ownBlock=some k) 10 (scq 11 [6,7,110]) kr ?_;refine ρn ?_;refine nld (Jr (Hd.blk.at (i:=6) rfl) ns) ?_;refine ρn ?_;refine Xr (cs:=v.cells) (λw' hg j u hu=>(Jb aa hg n1).at hu) ?_;refine ρn ?_;refine nop ?_;refine bsl (Jvj v) ?_;intro w2 b2 a1 an af;refine ρ ?_;refine Ja (GrN.ext a1) ?_;have H2:=Hd.ext' a1;refine nop ?_;have a5:K.w1.heap.size<=w2.heap.size:=H2.gr.size;refine apb (m':=1) (news:=v.cells) EV H2.row (af.rd (n:=1) rfl) (V.one _) (by unfold maxLen;omega) om a5 ?_;intro aj J a2 a8 am;obtain⟨Y3,c3,rfl,ai,ah⟩:=Jy a2;refine ρ ?_;refine Ja (GrN.by a8 λk hk=>hk) ?_;refine ρn ?_;refine Xh ?_;have C:GrN (λk=>(Value.slice YA y.length yc).ownBlock=some k) w2 J:=GrN.by a8 λk hk=>hk
 have G:=Jb H2.blk C ns;refine sto (G.at (i:=6) rfl) (G.frozen 6) ?_;have D:Blk (J.setCell ((⟨K.sb,0,none⟩:Addr).add 6) (.slice Y3 (y.length+1) c3)) K.sb 241 (sCs K (.slice Y3 (y.length+1) c3) st):=G.set 6 _;have o:GrN (λk=>k=K.sb) J (J.setCell ((⟨K.sb,0,none⟩:Addr).add 6) (.slice Y3 (y.length+1) c3)):=GrN.set _ rfl;have ae:MapS Tryz.prog 3 J K.mb m fm:=H2.map.gr C (λe=>by have:=(U _ e).1;have:=hF.m2;omega);have a9:=ae.gr o (λe=>hF.nsm e.symm);have a6:=Jt a2 o λg eg e=>by rw[e]at eg;exact(Blk.ne_own G a2 rfl) eg.symm
 have O:GrN (λk=>k=K.mb) K.w1 (J.setCell ((⟨K.sb,0,none⟩:Addr).add 6) (.slice Y3 (y.length+1) c3)):=by
  have h1:=((H2.gr.mono λk _ h=>(.inl h:k=K.mb∨K.w1.heap.size<=k)).trans (C.mono λk _ h=>(.inr (U k h).1:k=K.mb∨K.w1.heap.size<=k))).trans (o.mono λk _ h=>(.inr (by rw[h];exact hF.s1):k=K.mb∨K.w1.heap.size<=k));exact h1.mono λk hk h=>h.elim id λh'=>by omega
 have ab:K.mb<B:=by have:=hF.m2;have:=hF.s1;have:=a3.1;omega
 have a7:GrN (λk=>k<B) w (J.setCell ((⟨K.sb,0,none⟩:Addr).add 6) (.slice Y3 (y.length+1) c3)) :=
  ((GrN.ext ((a4.trans Z).trans a1)).trans (C.mono λk _ h=>a3.2 k h)).trans (o.mono λk _ h=>by rw[h];exact a3.1)
 generalize (J.setCell ((⟨K.sb,0,none⟩:Addr).add 6) (.slice Y3 (y.length+1) c3))=w4 at D o a9 a6 O a7
 have ad:SeV K w4 (y++[v]) S st M w4.heap.size:=by
  refine⟨_,m,fm,⟨O,D,?_,a9,H.mle,H.pd.app hF hSp [v]⟩,D.lt,λg eg=>(Jy a6).elim λ_ h=>h.elim λ_ h=>(h.2.2 g eg).2⟩;grind [List.length_append,List.length_singleton,rowC_app',Jp]
 refine ω5 ?_;refine Gz ?_;refine ρn ?_;refine ldR (D.at (i:=6) rfl) ?_;refine clR (Qvs hF ad hM hg (by simp;omega) (v:=((y.length+1:Nat):Int)-1) (by simp)) ?_;rintro u w5 ⟨rfl,ac,h5⟩;refine ρ ?_;refine Ys ⟨rfl,a7.trans (ac.mono λk _ h=>by rw[h];exact ab),h5.top.same λc hc=>?_⟩;grind
theorem Qvr(hF:SeF K)(hS:SeV K w y S st M B):
  Ret Tryz.prog 143 [.pointer (some ⟨K.sb,0,none⟩)] w λu w'=>NatV w' u (K.X.prodS S y)/\Fresh w u/\Ext w w':=by
 have b4:=hF.ip.f32;obtain⟨yv,m,fm,H,az⟩:=id hS;obtain⟨g,hg⟩:∃ g:(Lit->Bool)->Nat->Nat,g=λleft c=>if S c=true/\left (.int .i64 (c:Int))=false then K.X.T c y else 1:=⟨_,rfl⟩
 have ao:∀ left c,g left c<=4294967296^20:=λleft c=>by
  rw[hg];simp only;split
  .rw[K.T];exact hF.ip.big _ _
  repeat grind
 have am:∀ left,Nb (Jg K.f (g left)):=λleft=>Nb.pow (k:=K.f) (Jjw (Nat.pow_pos (by decide)) λc _=>ao left c) om;refine enE Tryz.func143 Tryz.ntmps143 ?_;refine clR (Jbf 1 (by decide) _) ?_;rintro G w1 ⟨a6,aa,D⟩;refine ldR ((H.blk.ext D).at (i:=7) rfl) ?_;refine ρ ?_;refine rngm KI (H.map.ext D) ?_;intro w2 r cnt U a5 ac;have lr:w.heap.size<=r:=nL D.size a5;refine ρ ?_;refine Zq (fun (left:Lit->Bool) (cnt:Nat) (G:Value)=>[(0,.pointer (some ⟨K.sb,0,none⟩)),(3,G),(11,.pointer (some ⟨r,0,none⟩))])
  (λleft cnt G w'=>Ext w w'/\RgS Tryz.prog 3 w' K.mb r m fm left cnt/\NatX (λk=>k=r) w' G (Jg K.f (g left))/\Fresh w G) (λ_ cnt _=>cnt) _ cnt G sB ⟨D.trans U,ac,?_,aa⟩ ?_
 .have e:Jg K.f (g λkl=>(fm kl).isSome)=1:=Jfs λc hc=>by
   rw[hg];simp only;rw[if_neg];rintro⟨h1,h2⟩;obtain⟨d,p,h3,_⟩:=H.pd.1 c hc h1;rw[h3]at h2;cases h2
  rw[e];exact(NatX.old (N:=λ_=>False) ⟨a6,λ_ _ _ _ _ h=>h⟩ λk hk=>.inr (by rw[hk];exact a5)).ext U
 clear a6 aa ac U D G cnt;rintro left cnt G w3 ⟨a2,au,Z,ap⟩;refine ρ ?_;refine nxtm KI au (λhl=>?_) (λkey v kl w4 ae ay b1 a9 ab an a7 aq=>?_)
 .refine ρ ?_;have e:Jg K.f (g left)=K.X.prodS S y:=Gx λc hc=>by grind
  rw[e]at Z;exact Jj ⟨Z.1,ap,a2⟩
 obtain⟨c,hc,a4,rfl⟩:=H.pd.2 kl (by rw[a9];simp);obtain⟨d,p,J,ht,_⟩:=H.pd.1 c hc a4;rw[a9]at J;injection J with J
 subst J;have O:Ext w w4:=a7.old a2 λk hk=>by rw[hk];exact lr
 refine ρ ?_;refine entm aq ?_;refine Jv Vl ?_;intro w5 b5 ah ar ax;refine Xn ax ?_;intro w6 av b2 ag;have o:Ext w4 w6:=ag w4 ah ar;refine Qq av ?_;refine ρ ?_;have a3:Ext K.w0 w6:=(hF.ext H.gr).trans (O.trans o);refine cl (Jdg (ht.ext a3) (by rw[<-K.T];exact Nb.pow (k:=1) (by rw[Nat.pow_one,K.T];exact hF.ip.big _ _) om)) ?_;rintro ut w7 ⟨ai,b3,C⟩;have ak:NatV w7 G (Jg K.f (g left)):=(((Z.gr a7).ext o).ext C).1;refine clR (Jzh ak ai (am left).len (Nb.len (Nb.pow (k:=1) (by rw[Nat.pow_one];exact hF.ip.big _ _) om))) ?_;rintro ur w8 ⟨aj,a8,a1⟩;refine ρ ?_;refine Xq _ ae ur sO ⟨((O.trans o).trans C).trans a1,((ab.ext o).ext C).ext a1,?_,λad m c e=>?_⟩ an
 .have af:r<w7.heap.size:=nM (ab.lt) (o.trans C).size;have e:Jg K.f (g λz=>left z && !z.sameKey (.int .i64 (c:Int)))=Jg K.f (g left)*(K.t c y).sum:=by
   rw[Jwf hc,Jwf (g:=g left) hc];have h1:g left c=1:=by grind
   have h2:g (λz=>left z && !z.sameKey (.int .i64 (c:Int))) c=(K.t c y).sum:=by
    rw[hg];simp only;rw[if_pos ⟨a4,by rw[WideAt.sameKey_self (Jbn om)];simp⟩,K.T]
   rw[h1,h2,Nat.one_mul,Nat.mul_comm];congr 1
   refine Gx λj hj=>?_;by_cases ej:j=c
   .rw[if_pos ej,if_pos ej]
   rw[if_neg ej,if_neg ej,hg];simp only;have:(Lit.int .i64 (j:Int)).sameKey (.int .i64 (c:Int))=false:=Maps.sameKey_ne λe'=>ej (Jbj e');grind
  rw[e];exact a8.x aj λk hk=>by rw[hk];exact af
 exact nL (((O.trans o).trans C).size) (a8 ad m c e)
end
open Go.RowKit Pl Go.Wk
attribute [local irreducible] WH
variable {L:List Row}{B0 c f k m pc:Nat}{pf:Nat->Int}{BB:Nat->List BkT}{y z:Row}{x:Value}{w w0:World}
def pS(pf:Nat->Int)(m q:Nat)(c:Nat): Bool:=decide (m<=c) && decide (pf c<(q:Int))
theorem Jtj(K:SeK)(m:Nat)(y:Row): K.X.prodS (pS K.pf m m) y=K.X.pend m y:=Gx λc _=>by
 simp only[pS,Bool.and_eq_true,decide_eq_true_eq];rfl
theorem Jtk(K:SeK)(m:Nat)(y:Row): K.X.prodS (pS K.pf (m+1) m) y=K.X.others m y:=Gx λc _=>by
 simp only[pS,Bool.and_eq_true,decide_eq_true_eq];rfl
theorem Jgb: (pS pf m m c && !decide (c=m))=pS pf (m+1) m c:=by grind [pS]
theorem Jgc(hp:pf c<(c:Int)): (pS pf (m+1) m c || decide (pf c=(m:Int)))=pS pf (m+1) (m+1) c:=by
 unfold pS;grind
def hmB(bs:List BkT): Nat:=bs.foldl (λm b=>max m b.2.ht) 0
theorem foldl_max{bs:List BkT}: ∀ {m:Nat},m<=bs.foldl (λm b=>max m b.2.ht) m/\∀ b∈bs,b.2.ht<=bs.foldl (λm b=>max m b.2.ht) m:=by
 induction bs with
 | nil=>intro m;exact⟨nR _,λb i=>by cases i⟩
 | cons a bs ih=>
  grind
theorem Jpv(bs:List BkT)(k:Row): (trK bs k).ht<=hmB bs:=by
 unfold trK;cases hf:bs.find? λb=>decide (b.1=k) with
 | none=>exact Nat.zero_le _
 | some b=>exact foldl_max.2 b (List.mem_of_find?_eq_some hf)
def wiL(L:List Row)(y:Row): List Row:=L.filter λx=>decide (x.take y.length=y)
theorem Xzl(A B C D E F:Option Addr)(a b c d e f a' b' c' d' e' f':Nat)(mb:Nat)(w:World): (Instr.build 241 #[(0,.agg #[.slice A a a',.slice B b b',.slice C c c',.slice D d d',.slice E e e']),(1,.slice F f f'),(3,.map (some mb))]).run Tryz.prog w=.ok (.agg #[.slice A a a',.slice B b b',.slice C c c',.slice D d d',.slice E e e',.slice F f f',.slice none 0 0,.map (some mb),.int .i64 0]) w:=kr
section
variable {f:Nat} {ds:List Bool} {kf:Nat->Nat} {pf:Nat->Int} {BB:Nat->List BkT} {tot:Nat} {L:List Row}
theorem Xwp(tb:TB B0 w)(ix:IxV w x f ds kf pf BB tot)(ip:IxP f ds kf pf BB tot L)(ne:tot≠0):
  Ret Tryz.prog 139 [x] w λu w'=>∃ K:SeK,(K.w0=w/\K.f=f/\K.ds=ds/\K.kf=kf/\K.pf=pf/\K.BB=BB/\K.tot=tot/\K.L=L)/\u=.pointer (some ⟨K.sb,0,none⟩)/\SeF K/\SeV K w' [] (pS K.pf 0 0) 0 32 w'.heap.size/\Ext w w':=by
 obtain⟨DA,dc,BA,cb,KA,ck,PA,cp,tv,af,ae,rfl,ai,aj,hD,hB,hK,hP,a7,ag⟩:=id ix.ex;obtain⟨TA,tc,rfl,_⟩:=id a7;refine enE Tryz.func139 Tryz.ntmps139 ?_;refine bxR ?_;intro w1 b a6 hb ab;have a2:Ext w1 w1.drew:=(Ext.refl w1).drew;have a4:=ab.ext a2;have C:=a6.trans a2;refine ρ ?_;refine drG kr ?_;refine Vq (fuel':=5) [(0,0),(0,1)] #[true,true,false,false,false,false,false] kr kr rfl ?_;refine Qh (cs:=[.slice DA f dc,.slice BA f cb,.slice KA f ck,.slice PA f cp,.slice TA (Jq tot).length tc]) (λj u hu=>a4.at hu) ?_;refine Qh (cs:=[.slice DA f dc,.slice BA f cb,.slice KA f ck,.slice PA f cp,.slice TA (Jq tot).length tc]) (λj u hu=>a4.at hu) ?_;refine ρd ?_;refine Vx ?_;refine gcut 3 #[true,true,true,true,false,false,false] (fun (q:Option Addr×Nat×Nat)=>[(4,.agg #[.slice DA f dc,.slice BA f cb,.slice KA f ck,.slice PA f cp,.slice TA (Jq tot).length tc]),(6,.slice q.1 f q.2.1),(7,.map (some q.2.2))])
  (λq W=>Ext w1.drew W/\f<=q.2.1/\w1.drew.heap.size<=q.2.2/\MapS Tryz.prog 3 W q.2.2 0 (λ_=>none)/\Off (λk=>k=q.2.2) W (λu=>Rd u 3 q.1 f (Qo f (Qr kf pf)))) ?_ ?_
 .rintro⟨A,c,O⟩ w2 ⟨o,D,hm,J,G⟩;simp only at D hm J G;refine Vq (fuel':=0) [(1,4),(1,5),(0,6)] #[true,true,true,true,true,true,true] kr kr rfl ?_;refine Gb ?_;refine bld (Xzl _ _ _ _ _ _ _ _ _ _ _ _ _ _ _ _ _ _ _ _) ?_;refine Jd (Gy (Ext.refl _) ?_);refine Gb ?_;refine bx ?_;intro w3 sb i a8 a3;refine Jd (Gy i ?_);refine ρd ?_;refine Vx ?_;refine gend kr ?_;obtain⟨K,hK⟩:∃ K:SeK,K=⟨B0,w,w2,O,sb,.slice DA f dc,.slice BA f cb,.slice KA f ck,.slice PA f cp,.slice TA (Jq tot).length tc,A,c,f,ds,kf,pf,BB,tot,L⟩:=⟨_,rfl⟩;have Z:SeF K:=by
   subst hK;exact⟨tb,ix,ip,ne,C.trans o,Nat.le_trans C.size hm,J.lt,a8,D,G,Qjd⟩
  have hV:SeV K w3 [] (λ_=>false) 0 0 w3.heap.size:=by
   subst hK;exact⟨.slice none 0 0,0,λ_=>none,⟨GrN.ext i,a3,Zy _ _ _ _,J.ext i,Nat.le_refl _,λc _ h=>(by cases h),λkl h=>absurd rfl h⟩,a3.lt,λg eg=>by simp[Value.ownBlock]at eg⟩
  have a5:K.w0=w/\K.f=f/\K.ds=ds/\K.kf=kf/\K.pf=pf/\K.BB=BB/\K.tot=tot/\K.L=L:=by grind
  have ac:sb=K.sb:=by subst hK;rfl
  have a1:=(C.trans o).trans i;have em:w.heap.size<=K.mb:=by rw[<-a5.1];exact Z.m1
  have ak:K.f<=32:=Z.ip.f32;subst ac;refine clR (Qvs Z hV om AX.Gp.nil (by simp) (v:=-1) rfl) ?_;rintro u w4 ⟨rfl,a9,aa⟩;refine ρ ?_;refine Jj ⟨K,a5,rfl,Z,(aa.top.same λc D=>?_).more om,a9.old a1 λk hk=>by rw[hk];exact em⟩;have:=Z.ip.par Z.ne D;unfold pS;grind
 intro rest;refine Io 2 3 kr rfl rfl rfl ?_ ?_
 .refine clR (Jhh (ix.ext C)) ?_;rintro u w2 ⟨⟨A,c,rfl,D,hR,hf⟩,o⟩;refine Jd (Yq o ?_);refine Vq (fuel':=3) [(1,3)] #[true,true,true,true,false,false,false] kr kr rfl ?_;refine Gb ?_;refine mkm 3 ?_;intro w3 O i U J;refine Jd (Gy i ?_);refine Zc (Vx ?_);refine rest (A,c,O) _ _ ⟨o.trans i,D,Nat.le_trans o.size U,J,Jwc (hR.ext i) λh0 ad e (e2:ad.block=O)=>?_⟩ sB;have e:A=some ad:=e;obtain⟨am,e',ah⟩:=hR.2 h0;grind
 refine ρ ?_;refine mkm 3 ?_;intro w2 O o U J;refine Jd (Yq o ?_);refine Vq (fuel':=3) [(1,2)] #[true,true,true,true,false,false,false] kr kr rfl ?_;refine Gb ?_;refine cl (Jhh (ix.ext (C.trans o))) ?_;rintro u w3 ⟨⟨A,c,rfl,D,hR,hf⟩,i⟩;refine Jd (Gy i ?_);refine Zc (Vx ?_);refine rest (A,c,O) _ _ ⟨o.trans i,D,U,J.ext i,Jwc hR λh0 ad e (e2:ad.block=O)=>?_⟩ sB;have:=hf ad e;have:=J.lt;omega
end
section
variable {K:SeK} {w:World} {y:Row} {S:Nat->Bool} {st M B:Nat}
theorem SeV.steps(hF:SeF K)(h:SeV K w y S st M B)(k:Nat): SeV K (w.setCell ((⟨K.sb,0,none⟩:Addr).add 8) (.int .i64 ((st+k:Nat):Int))) y S (st+k) M B/\GrN (λk=>k=K.sb) w (w.setCell ((⟨K.sb,0,none⟩:Addr).add 8) (.int .i64 ((st+k:Nat):Int))):=by
 obtain⟨yv,m,fm,H,o⟩:=h;have i:GrN (λk=>k=K.sb) w (w.setCell ((⟨K.sb,0,none⟩:Addr).add 8) (.int .i64 ((st+k:Nat):Int))):=GrN.set _ rfl;refine⟨⟨yv,m,fm,⟨?_,H.blk.set 8 _,Jt H.row i λg j e=>?_,H.map.gr i λe=>hF.nsm e.symm,H.mle,H.pd⟩,o⟩,i⟩
 .exact((H.gr.mono λk _ h=>(.inl h:k=K.mb∨k=K.sb)).trans (i.mono λk _ h=>.inr h)).mono λk u h=>h.elim id λe=>by have:=hF.s1;omega
 rw[e]at j;exact(Blk.ne_own H.blk H.row rfl) j.symm
theorem SeF.pnb(hF:SeF K)(m:Nat)(z:Row): Nb (K.X.pend m z):=by
 refine Nb.pow (k:=K.f) (Jjw (Nat.pow_pos (by decide)) λc _=>?_) hF.ip.f32;split
 .rw[K.T];exact hF.ip.big _ _
 repeat grind
theorem SeV.ext0(h:SeV K w y S st M B)(hF:SeF K): Ext K.w0 w:=by
 obtain⟨yv,m,fm,H,_⟩:=h;exact hF.ext H.gr
theorem SeF.has(hF:SeF K)(hc:c<K.f){d:Bool}(hd:K.t c z≠.nil->d=K.ds.getD c false)(v:V):
  Tr.hasT d v (K.t c z)=true↔v∈(K.X.E c (K.X.key c z)).map (·.1):=by
 rw[K.E];by_cases h:K.t c z=.nil
 .rw[h];simp[Tr.hasT,Tr.toL]
 have i:Jjg d (K.t c z).toL:=by
  rw[hd h,<-K.E];exact(hF.ip.srt hF.ne).srt c hc _
 exact(Tr.befT_eq i).2
end
def kT(kf:Nat->Nat)(BB:Nat->List BkT)(c:Nat)(y:Row): Tr:=trK (BB c) (pmR (bk (kf c) 32) y)
def rkN(ds:List Bool)(T:Nat->Row->Tr)(q:Row): Nat->Nat
 | 0=>0
 | i+1=>rkN ds T q i+Tr.pB (ds.getD i false) (q.getD i V0) (T i (q.take i))
def acN(X:IX)(T:Nat->Row->Tr): Nat->Row->Nat->Nat
 | 0,_,_=>0
 | n+1,z,k=>Tr.pF (k / X.others z.length z) (T z.length z)+acN X T n (z++[(Tr.findT (k / X.others z.length z) (T z.length z)).1]) ((k / X.others z.length z-(Tr.findT (k / X.others z.length z) (T z.length z)).2)*X.others z.length z+k % X.others z.length z)
def AcR(f:Nat)(BB:Nat->List BkT)(L:List Row)(y:Row)(k:Nat)(u:Value)(w:World): Prop:=match(wiL L y)[k]? with
 | some r=>∃ A c,∃ st:Nat,u=.tuple #[.slice A r.length c,.int .i64 (st:Int),.int .i64 0]/\RdR w A r/\r.length<=c/\r.length=f/\st<=Qc f λv=>hmB (BB v)
 | none=>u=.tuple #[.slice none 0 0,.int .i64 0,.int .i64 3]
theorem AcR.none(h:(wiL L y)[k]?=none): AcR f BB L y k (.tuple #[.slice none 0 0,.int .i64 0,.int .i64 3]) w:=by
 unfold AcR;rw[h]
def AcRF(w0:World)(f:Nat)(BB:Nat->List BkT)(L:List Row)(y:Row)(k:Nat)(u:Value)(w:World): Prop:=match(wiL L y)[k]? with
 | some r=>∃ A c,∃ st:Nat,u=.tuple #[.slice A r.length c,.int .i64 (st:Int),.int .i64 0]/\RdR w A r/\r.length<=c/\r.length=f/\(st<=Qc f λv=>hmB (BB v))/\(r≠[]->∀ ad,A=some ad->w0.heap.size<=ad.block)
 | none=>u=.tuple #[.slice none 0 0,.int .i64 0,.int .i64 3]
theorem AcRF.none(h:(wiL L y)[k]?=none): AcRF w0 f BB L y k (.tuple #[.slice none 0 0,.int .i64 0,.int .i64 3]) w:=by
 unfold AcRF;rw[h]
def AcN(f:Nat)(ds:List Bool)(kf:Nat->Nat)(pf:Nat->Int)(BB:Nat->List BkT)(L:List Row)(y:Row)(k:Nat)(u:Value): Prop:=∀ r,(wiL L y)[k]?=some r->∃ v e,u=.tuple #[v,.int .i64 ((rkN ds (kT kf BB) y y.length+acN (Qs f kf pf BB) (kT kf BB) (f-y.length) y k:Nat):Int),e]
theorem Jmq{ds:List Bool}{kf:Nat->Nat}(h:(wiL L y)[k]?=none): AcRF w0 f BB L y k (.tuple #[.slice none 0 0,.int .i64 0,.int .i64 3]) w/\AcN f ds kf pf BB L y k (.tuple #[.slice none 0 0,.int .i64 0,.int .i64 3]):=⟨AcRF.none h,λr i=>by rw[h]at i;cases i⟩
section
variable {f:Nat} {ds:List Bool} {kf:Nat->Nat} {pf:Nat->Int} {BB:Nat->List BkT} {tot:Nat} {L:List Row}
theorem IxP.wi_none(ip:IxP f ds kf pf BB tot L)(ne:tot≠0)(hg:¬ (Qs f kf pf BB).Gp y): wiL L y=[]:=by
 unfold wiL;rw[ip.ans ne];exact AX.within_none hg
theorem IxP.wi_some(ip:IxP f ds kf pf BB tot L)(ne:tot≠0)(hy:y.length<=f)(hg:(Qs f kf pf BB).Gp y): wiL L y=(Qs f kf pf BB).ext (f-y.length) y:=by
 unfold wiL;rw[ip.ans ne];exact(ip.srt ne).within hy hg
theorem IxP.nbP(ip:IxP f ds kf pf BB tot L)(m:Nat)(z:Row): Nb ((Qs f kf pf BB).pend m z):=by
 refine Nb.pow (k:=f) (Jjw (Nat.pow_pos (by decide)) λc _=>?_) ip.f32;split
 .rw[Qvd];exact ip.big _ _
 repeat grind
theorem IxP.nbT(ip:IxP f ds kf pf BB tot L): Nb tot:=by
 by_cases h:tot=0
 .rw[h];exact(ip.nbP 0 []).le (Nat.zero_le _)
 rw[<-ip.pend0 h];exact ip.nbP 0 []
theorem Xwn{kv:Value}{PA:Option Addr}(tb:TB B0 w)(ix:IxV w x f ds kf pf BB tot)(ip:IxP f ds kf pf BB tot L)(hO:tot≠0->∀ z,(Qs f kf pf BB).Gp z->z.length<f->0<(Qs f kf pf BB).pend z.length z->(Qs f kf pf BB).others z.length z<4294967296)(hy:RdR w PA y)(hk:NatV w kv k):
  Ret Tryz.prog 89 [x,.slice PA y.length pc,kv] w λu w'=>Ext w w'/\(f<y.length->u=.tuple #[.slice none 0 0,.int .i64 0,.int .i64 6])/\(y.length<=f->AcRF w f BB L y k u w'/\AcN f ds kf pf BB L y k u):=by
 obtain⟨DA,dc,BA,cb,KA,ck,dt,cp,tv,f6,f3,rfl,fk,fl,hD,hB,hK,hP,e3,fa⟩:=id ix.ex;obtain⟨TA,tc,rfl,_⟩:=id e3;obtain⟨kA,bl,rfl,_⟩:=id hk;have fr:=ip.f32;refine enE Tryz.func89 Tryz.ntmps89 ?_;refine bxR ?_;intro w1 b ah hb ax;refine Qq ax ?_;refine clR (Jhg (ix.ext ah)) ?_;rintro u w2 ⟨rfl,a4⟩;refine ciR (λh=>?_) (λh=>?_)
 .have fe:f<y.length:=by have:=oT h;omega
  refine ρ ?_;exact Zz ⟨ah.trans a4,λ_=>rfl,λh=>om⟩
 have ca:y.length<=f:=by grind
 clear h;refine Qq (ax.ext a4) ?_;refine clR (Jhd (ix.ext (ah.trans a4)) ip.nbT) ?_;rintro u w3 ⟨co,_,b1⟩;have Z:=(ah.trans a4).trans b1;obtain⟨UA,uc,rfl,_⟩:=id co;refine ciR (λh=>?_) (λh=>?_)
 .have h0:tot=0:=by
   have:=Zx h;grind [Nat.eq_zero_or_pos,tot,limbs_pos']
  refine ρ ?_;refine Zz ⟨Z,λh=>om,λ_=>Jmq ?_⟩;have:L=[]:=List.eq_nil_of_length_eq_zero (by rw[<-ip.len];exact h0);rw[this];rfl
 have ne:tot≠0:=λe=>by
  have:=Xu h;grind [limbs_0]
 clear h;refine Qq ((ax.ext a4).ext b1) ?_;refine clR (Xwp (tb.ext Z) (ix.ext Z) ip ne) ?_;rintro u w4 ⟨K,⟨e0,rfl,rfl,rfl,rfl,rfl,rfl,rfl⟩,rfl,C,df,e1⟩;have U:Ext w K.w0:=by rw[e0];exact Z
 have ek:Blk K.w0 b 55 [.slice DA K.f dc,.slice BA K.f cb,.slice KA K.f ck,.slice dt K.f cp,.slice TA (Jq K.tot).length tc]:=by rw[e0];exact(ax.ext a4).ext b1
 clear e0 ax ah a4 b1 Z co;have bs:∀ c,c<K.f->K.pf c<(c:Int):=λc hc=>(C.ip.par ne hc).2;have b4:K.X.Ok:=C.ip.ok ne;have d4:∀ v z,(K.t v z).ht<=hmB (K.BB v):=λv z=>Jpv _ _;have bc:∀ v z,(K.t v z).ht<=65536:=λv z=>nL (Tr.ht_le _) (C.ip.siz _ _);have am:∀ v z,Nb (K.t v z).sum:=λv z=>Nb.pow (k:=1) (by rw[Nat.pow_one];exact C.ip.big _ _) om;have cr:∀ v z,(K.t v z).sz<=1000000:=λv z=>nL (C.ip.siz _ _) (by decide);refine ρ ?_;refine Jo (fun (i:Nat) (st:Nat)=>[(2,.slice kA (Jq k).length bl),(3,.pointer (some ⟨b,0,none⟩)),(6,.slice none 0 0),(7,.int .i64 0),(8,.int .i64 0),(9,.pointer (some ⟨K.sb,0,none⟩)),(35,.slice PA y.length pc),(36,.int .i64 (y.length:Int)),(37,.int .i64 (i:Int))])
  (λi st w'=>i<=y.length/\K.X.Gp (y.take i)/\SeV K w' (y.take i) (pS K.pf i i) st (32*(i+1)) w'.heap.size/\st<=Qc i (λv=>hmB (K.BB v))/\st<=65536*i/\st=rkN K.ds (kT K.kf K.BB) y i) (λi _=>y.length-i) 0 0 sB
  ⟨Nat.zero_le _,AX.Gp.nil,df,Nat.le_refl _,Nat.le_refl _,rfl⟩ ?_
 clear df e1 w4;rintro i st w5 ⟨hi,ap,G,br,bq,bp⟩;have bm:=U.trans (G.ext0 C);have ao:(y.take i).length=i:=by rw[List.length_take];omega
 refine ciR (λh=>?_) (λh=>?_)
 .have li:i<y.length:=by have:=oT h;omega
  have ef:i<K.f:=om
  clear h;have cd:=Rd.ext hy bm;refine Qp 3 i cd li ?_;refine Js (cs:=(y.getD i V0).cells) (λj u' ai=>RdR.cell cd li ai) ?_;refine Jv (cs:=V0.cells) Uv ?_;intro w6 dq J dd ay;refine Qb (cs':=(y.getD i V0).cells) ay ?_ (V.one _);intro w7 el c2 a3;have ce:Ext w5 w7:=a3 w5 J dd;have a9:Ext w7 w7.drew:=(Ext.refl w7).drew;have a1:=(G.ext ce).ext a9;have bh:=el.ext a9;have eo:K.mb<w5.heap.size:=by obtain⟨_,_,_,H,_⟩:=G;exact H.map.lt
  have b6:¬ dq=K.mb:=om
  refine ρ ?_;refine drN (λk=>k=K.mb) 10 [(0,0),(0,2),(1,1),(1,3),(0,4),(0,5),(0,6),(0,7),(0,8),(0,9),(0,10)] kr ?_;refine ρn ?_;refine Xr (cs:=(y.getD i V0).cells) (λw' hg j u hu=>(Jb bh hg b6).at hu) ?_;refine ρn ?_;refine nop ?_;refine cl (Qvp C a1 om (by grind [pS])) ?_;rintro u w8 ⟨⟨d,p,rfl,hT,hd⟩,d6,b5⟩;rw[ao]at hT hd b5;refine ρ ?_;refine Ja d6 ?_;refine ρn ?_;refine nop ?_;refine cl (Qwr (hT.ext (b5.ext0 C)) (am _ _) (cr _ _)) ?_;rintro u w9 ⟨sv,rfl,hq,fb,aa⟩;obtain⟨q,cx⟩:∃ q,q=Tr.pB d (y.getD i V0) (K.t i (y.take i)):=⟨_,rfl⟩;rw[<-cx]at hq ⊢;have bt:st+q=rkN K.ds (kT K.kf K.BB) y (i+1):=by
   rw[rkN,<-bp,cx];show _=st+Tr.pB _ _ (K.t i (y.take i));by_cases hnl:K.t i (y.take i)=.nil
   .rw[hnl];rfl
   rw[hd hnl]
  refine ρ ?_;refine Ja (GrN.ext aa) ?_;refine ρn ?_;have d9:=C.has ef (z:=y.take i) hd (y.getD i V0);refine ciR (λh=>?_) (λh=>?_)
  .have e9:¬ K.X.Gp y:=λhg=>by
    have h1:=hg i li;grind
   refine ρ ?_;refine Zz ⟨U.trans ((b5.ext aa).ext0 C),λh=>om,λ_=>Jmq ?_⟩;rw[C.ip.wi_none ne e9];rfl
  have cc:Tr.hasT d (y.getD i V0) (K.t i (y.take i))=true:=by grind
  clear h;have cz:=d9.1 cc;have ar:=b5.ext aa;have c5:=(Jb bh d6 b6).ext aa;obtain⟨yv,mm,fm,H9,d0⟩:=id ar;refine ldR (H9.blk.at (i:=8) rfl) ?_;have e6:=d4 i (y.take i);have e5:=bc i (y.take i);refine Xv (H9.blk.at (i:=8) rfl) (H9.blk.frozen 8) ?_;obtain⟨bg,bd⟩:=ar.steps C q;obtain⟨ac,b9⟩:∃ ac,ac=w9.setCell ((⟨K.sb,0,none⟩:Addr).add 8) (.int .i64 ((st+q:Nat):Int)):=⟨_,rfl⟩;have bo:w9.setCell ((⟨K.sb,0,none⟩:Addr).add 8) (.int .i64 ((st:Int)+(q:Int)))=ac:=b9.symm;rw[<-b9]at bg bd;have bj:¬ dq=K.sb:=λe=>by have:=d0.1;omega
  have dn:=Jb c5 bd bj;refine Eq.mpr (congrArg _ bo) ?_;refine Js (cs:=(y.getD i V0).cells) (λj u' ai=>dn.at ai) ?_;have cq:y.take (i+1)=y.take i++[y.getD i V0]:=Qt V0 li;have ab:K.X.Gp (y.take i++[y.getD i V0]):=ap.snoc (by rw[ao];exact cz);refine cl (Qvq C (bg.same λc _=>Jgb) om om (y.getD i V0) ab (λc _ hs=>by
   rw[ao];unfold pS at hs;grind)) ?_
  rintro u dv ⟨rfl,_,a2⟩;rw[<-cq,ao]at a2;rw[<-cq]at ab;refine ρ ?_;refine Jl (i+1) (st+q) sO ⟨li,ab,(a2.same λc hc=>Jgc (bs c hc)).more om,?_,om,bt⟩ om;rw[Qc];omega
 have eg:i=y.length:=by grind
 subst eg;clear h;rw[List.take_length]at ap G;refine clR (Qvr C G) ?_;rw[Jtj];rintro u w6 ⟨cn,d8,J⟩;refine clR (Gk (hk.ext (bm.trans J)) cn) ?_;rintro u w7 ⟨rfl,a3⟩;have a1:=(G.ext J).ext a3;have cm:=C.ip.wi_some ne ca ap;have cj:(wiL K.L y).length=K.X.pend y.length y:=by
  rw[cm];exact b4.ext_len _ y (by show y.length+(K.f-y.length)=K.f;omega)
 refine ciR (λh=>?_) (λh=>?_)
 .have eh:K.X.pend y.length y<=k:=by
   have:=oT h;rcases Nat.lt_or_ge k (K.X.pend y.length y) with h'|h'
   .have:=cmpN_lt.2 h';omega
   exact h'
  refine ρ ?_;exact Zz ⟨U.trans (a1.ext0 C),λh=>om,λ_=>Jmq (List.getElem?_eq_none (by rw[cj];exact eh))⟩
 have c1:k<K.X.pend y.length y:=by
  rcases Nat.lt_or_ge k (K.X.pend y.length y) with h'|h'
  .exact h'
  exact absurd (Int.not_lt.1 λem=>by have:=cmpN_lt.1 em;omega) (oF h)
 clear h;obtain⟨r,hr⟩:∃ r,(wiL K.L y)[k]?=some r:=⟨_,List.getElem?_eq_getElem (by rw[cj];exact c1)⟩;have d3:NatX (λq=>q=K.mb) w7 (.slice kA (Jq k).length bl) k:=(NatX.old (N:=λ_=>False) ⟨hk,λ_ _ _ _ _ h=>h⟩ λq hq=>.inr (by rw[hq];exact nL U.size C.m1)).ext (U.trans (a1.ext0 C));obtain⟨Nt,c4⟩:∃ Nt,Nt=st+acN K.X (kT K.kf K.BB) (K.f-y.length) y k:=⟨_,rfl⟩;refine ρ ?_;refine Jxd (fun (z:Row) (st:Nat) (o:Nat) (kv:Value)=>[(2,kv),(3,.pointer (some ⟨b,0,none⟩)),(6,.slice none 0 0),(7,.int .i64 0),(8,.int .i64 0),(9,.pointer (some ⟨K.sb,0,none⟩))])
  (λz st o kv w'=>z.length<=K.f/\K.X.Gp z/\o<K.X.pend z.length z/\(K.X.ext (K.f-z.length) z)[o]?=some r/\SeV K w' z (pS K.pf z.length z.length) st (32*(z.length+1)) w'.heap.size/\NatX (λq=>q=K.mb) w' kv o/\st<=Qc z.length (λv=>hmB (K.BB v))/\st<=65536*z.length/\st+acN K.X (kT K.kf K.BB) (K.f-z.length) z o=Nt) (λz _ _ _=>K.f-z.length) y st k (.slice kA (Jq k).length bl) sB
  ⟨ca,ap,c1,by rw[<-hr,cm];rfl,a1.top,d3,br,bq,c4.symm⟩ ?_
 rw[bp]at c4;clear d3 c1 a1 a3 J d8 cn w7 w6 br bq bp bm G w5 st ao hi ap;rintro z st o kv w5 ⟨hz,d5,ee,f7,G,d2,br,bq,b3⟩;have a9:Ext w5 w5.drew:=(Ext.refl w5).drew;have av:=G.ext a9;obtain⟨yv,mm,fm,H,eb⟩:=id av;obtain⟨YA,yc,rfl,f9,_⟩:=Jy H.row;have ad:=av.ext0 C;have di:=ek.ext ad;refine drR (scq 8 [6]) ?_;refine Jz (H.blk.at (i:=6) rfl) ?_;refine Qh (cs:=[.slice DA K.f dc,.slice BA K.f cb,.slice KA K.f ck,.slice dt K.f cp,.slice TA (Jq K.tot).length tc]) (λj u hu=>di.at hu) ?_;refine Jh (Jhg (ix.ext (U.trans ad))) ?_;rintro u w6 ⟨rfl,J⟩;refine⟨J,?_⟩;have de:=av.ext J;have d1:=(d2.ext a9).ext J;clear di ad;refine ρd ?_;refine ciR (λh=>?_) (λh=>?_)
 .have lz:z.length<K.f:=by have:=oT h;omega
  clear h;refine clR (Qvp C de lz (by unfold pS;simp[bs _ lz])) ?_;rintro u w7 ⟨⟨d,p,rfl,hT,hd⟩,c2,a1⟩;refine Jv Vl ?_;intro w8 ft dz db dl;refine Xn dl ?_;intro w9 c5 fg aa;have ae:Ext w7 w9:=aa w7 dz db;have ar:SeV K w9 z (pS K.pf (z.length+1) z.length) st (32*(z.length+1)) w5.heap.size:=(a1.ext ae).same λc _=>Jgb;refine clR (Qvr C ar) ?_;rw[Jtk];rintro uo ac ⟨bb,ei,a7⟩;have a8:=b4.others_le lz (show 0<K.X.pend z.length z by omega);have ej:=hO ne z d5 lz (show 0<K.X.pend z.length z by omega);have c0:NatV ac kv o:=(((d1.gr c2).ext ae).ext a7).1;have ak:Nb o:=(C.pnb z.length z).le om;refine clR (Qnq c0 bb ak.len a8.1 ej) ?_;rintro u dv ⟨⟨qv,rv,rfl,ba,cw⟩,a6⟩;refine ρ ?_;have hq:o / K.X.others z.length z<(K.t z.length z).sum:=by
   rw[Nat.div_lt_iff_lt_mul a8.1,<-K.T,<-b4.pend_split lz];exact ee
  have ay:=(c5.ext a7).ext a6;refine Qq ay ?_;refine ρ ?_;have a2:=(ar.ext a7).ext a6;refine cl (Qtv (hT.ext (a2.ext0 C)) ba hq (am _ _) (cr _ _)) ?_;rintro u bi ⟨sv,rfl,hn,cv,ag⟩;obtain⟨n,cy⟩:∃ n,n=Tr.pF (o / K.X.others z.length z) (K.t z.length z):=⟨_,rfl⟩;rw[<-cy]at hn ⊢;have bt:st+n+acN K.X (kT K.kf K.BB) (K.f-(z.length+1)) (z++[(Tr.findT (o / K.X.others z.length z) (K.t z.length z)).1]) ((o / K.X.others z.length z-(Tr.findT (o / K.X.others z.length z) (K.t z.length z)).2)*K.X.others z.length z+o % K.X.others z.length z)=Nt:=by
   rw[show K.f-z.length=K.f-(z.length+1)+1 by omega,acN]at b3;rw[<-b3,cy,Nat.add_assoc];rfl
  refine Jv (cs:=V0.cells) Uv ?_;intro f0 en ch da dj;refine Qb (cs':=(Tr.findT (o / K.X.others z.length z) (K.t z.length z)).1.cells) dj ?_ (V.one _);intro du dm er cg;have D:Ext bi du:=cg bi ch da;obtain⟨l1,l2,yy,hL,bv,ed,ec⟩:=Tr.findT_eq hq;have fd:=am z.length z;have e8:Nb (o / K.X.others z.length z):=ak.le (Nat.div_le_self _ _);have e4:o / K.X.others z.length z-(Tr.findT (o / K.X.others z.length z) (K.t z.length z)).2<=o:=nL (Nat.sub_le _ _) (Nat.div_le_self _ _);refine clR (Qjm (ba.ext (ag.trans D)) (cv.ext D) e8.len) ?_;rintro u ez ⟨⟨ov,rfl,e7,fh⟩,af⟩;rw[if_neg (show¬ o / K.X.others z.length z<(Tr.findT (o / K.X.others z.length z) (K.t z.length z)).2 by omega)];refine ρ ?_;have O:=(ag.trans D).trans af;refine cl (Jzh e7 (bb.ext (a6.trans O)) (ak.le e4).len (Nb.len ((C.pnb z.length z).le a8.2))) ?_;rintro mv ey ⟨ea,fi,a5⟩;have ff:(o / K.X.others z.length z-(Tr.findT (o / K.X.others z.length z) (K.t z.length z)).2)*K.X.others z.length z+o % K.X.others z.length z<=o:=by
   have h1:=Nat.div_add_mod o (K.X.others z.length z);have h2:=nO (K.X.others z.length z) (Nat.sub_le (o / K.X.others z.length z) (Tr.findT (o / K.X.others z.length z) (K.t z.length z)).2);grind
  refine clR (Ih ea (cw.ext (O.trans a5)) (ak.le om).len (ak.le (Nat.mod_le _ _)).len) ?_;rintro c9 c8 ⟨bz,c3,b7⟩;have b2:=(O.trans a5).trans b7;have bf:=a2.ext b2;obtain⟨eu,f5,fq,c6,bu⟩:=id bf;have e6:=d4 z.length z;have e5:=bc z.length z;refine ldR (c6.blk.at (i:=8) rfl) ?_;refine Xv (c6.blk.at (i:=8) rfl) (c6.blk.frozen 8) ?_;obtain⟨be,aq⟩:=bf.steps C n;obtain⟨az,b8⟩:∃ az,az=c8.setCell ((⟨K.sb,0,none⟩:Addr).add 8) (.int .i64 ((st+n:Nat):Int)):=⟨_,rfl⟩;have bn:c8.setCell ((⟨K.sb,0,none⟩:Addr).add 8) (.int .i64 ((st:Int)+(n:Int)))=az:=b8.symm;rw[<-b8]at be aq;have f2:w5.heap.size<=bi.heap.size:=nL (nL a9.size (J.size)) (nL c2.size (((ae.trans a7).trans a6).trans ag).size);have bj:¬ en=K.sb:=λe=>by have:=bu.1;omega
  have dk:=Jb (dm.ext ((af.trans a5).trans b7)) aq bj;refine Eq.mpr (congrArg _ bn) ?_;refine Js (cs:=(Tr.findT (o / K.X.others z.length z) (K.t z.length z)).1.cells) (λj u' ai=>dk.at ai) ?_;have dh:K.X.E z.length (K.X.key z.length z)=l1++((Tr.findT (o / K.X.others z.length z) (K.t z.length z)).1,yy)::l2:=by rw[K.E];exact hL
  have aj:=b4.ext_at (n:=K.f-(z.length+1)) (y:=z) (by show z.length+(K.f-(z.length+1)+1)=K.f;omega) dh a8.1 (by rw[bv];exact ed) (by rw[bv];exact ec);rw[bv]at aj;have ab:K.X.Gp (z++[(Tr.findT (o / K.X.others z.length z) (K.t z.length z)).1]):=d5.snoc (by rw[dh];simp);have an:(z++[(Tr.findT (o / K.X.others z.length z) (K.t z.length z)).1]).length=z.length+1:=by simp
  refine cl (Qvq C be om lz _ ab (λc _ hs=>by
   unfold pS at hs;grind)) ?_
  rintro u ew ⟨rfl,d7,dg⟩;refine ρ ?_;have bw:NatX (λq=>q=K.mb∨q<w5.heap.size) az c9 _:=(c3.x (N:=λq=>q=K.mb∨q<w5.heap.size∨q=K.sb) bz λq hq=>by
   have h1:=(D.trans (af.trans a5)).size;have h2:=eb.1;rcases hq with h|h|h
   .rw[h];have:=G.ext0 C;obtain⟨_,_,_,H5,_⟩:=G;have:=H5.map.lt;omega
   .omega
   omega) |>.gr (aq.mono λq _ h=>.inr (.inr h)) |>.old λq hq=>.inl (by grind)
  refine Kd (z++[(Tr.findT (o / K.X.others z.length z) (K.t z.length z)).1]) (st+n) ((o / K.X.others z.length z-(Tr.findT (o / K.X.others z.length z) (K.t z.length z)).2)*K.X.others z.length z+o % K.X.others z.length z) c9 sO
   ⟨by rw[an];omega,ab,by rw[an];exact aj.2,?_,?_,(bw.gr (d7.mono λq _ h=>.inr h)).old λq hq=>.inl (.inl hq),?_,?_,by rw[an];exact bt⟩ (by rw[an];omega)
  .grind
  .rw[an];exact(dg.same λc hc=>Jgc (bs c hc)).more om
  repeat grind [Qc]
 have f8:z.length=K.f:=by have:=oF h;omega
 clear h;have dx:Ext w6 w6.drew:=(Ext.refl w6).drew;have au:=de.ext dx;obtain⟨et,f4,fp,H3,ep⟩:=id au;obtain⟨YB,yd,rfl,dw,_⟩:=Jy H3.row;refine drR [(0,0),(0,1),(0,2),(0,3),(0,5),(0,6),(0,7),(0,8),(1,4),(0,9),(0,10),(0,11)] ?_;refine Jz (H3.blk.at (i:=6) rfl) ?_;refine Jz (H3.blk.at (i:=8) rfl) ?_;refine Jh (Gd (r:=z) ⟨YB,yd,rfl,dw,om,Rd.own H3.row⟩ (λq=>q<w.heap.size) (λq hq=>nM hq (U.trans (au.ext0 C)).size)) ?_;rintro u w7 ⟨⟨A7,c7,rfl,fn,_,fo,fj⟩,a3⟩;refine⟨a3,?_⟩;refine ρd ?_;refine ρ ?_;refine Zz ⟨U.trans ((au.ext a3).ext0 C),λh=>om,λ_=>?_⟩;have fc:r=z:=by
  have e:K.f-z.length=0:=om
  grind [AX.ext]
 refine⟨by grind [AcRF,Nat.le_of_not_lt],λr' _=>⟨.slice A7 z.length c7,.int .i64 0,?_⟩⟩;have e2:st=Nt:=by
  rw[show K.f-z.length=0 by omega]at b3;exact b3
 rw[e2,c4];rfl
end
open Go.RowKit Pl Go.Wk
variable {k pc:Nat}
structure IxA(w:World)(x:Value)(f:Nat)(ds:List Bool)(kf:Nat->Nat)(pf:Nat->Int)(BB:Nat->List BkT)(tot:Nat)(L:List Row): Prop where
 tb:∃ B0,TB B0 w
 ix:IxV w x f ds kf pf BB tot
 ip:IxP f ds kf pf BB tot L
 ho:tot≠0->∀ z,(Qs f kf pf BB).Gp z->z.length<f->0<(Qs f kf pf BB).pend z.length z->(Qs f kf pf BB).others z.length z<4294967296
 hb:∀ v b,b∈BB v->b.2.ht<=65536
section
variable {w:World} {x:Value} {f:Nat} {ds:List Bool} {kf:Nat->Nat} {pf:Nat->Int} {BB:Nat->List BkT} {tot:Nat} {L:List Row}
theorem IxA.ext(h:IxA w x f ds kf pf BB tot L){w':World}(hx:Ext w w'): IxA w' x f ds kf pf BB tot L:=by
 obtain⟨i,ht⟩:=h.tb;exact⟨⟨i,ht.ext hx⟩,h.ix.ext hx,h.ip,h.ho,h.hb⟩
theorem Jnz(L:List Row): wiL L []=L:=by simp[wiL]
theorem Qbc(h:IxA w x f ds kf pf BB tot L){y:Row}{PA:Option Addr}{kv:Value}(hy:RdR w PA y)(hk:NatV w kv k):
  Ret Tryz.prog 89 [x,.slice PA y.length pc,kv] w λu w'=>Ext w w'/\(f<y.length->u=.tuple #[.slice none 0 0,.int .i64 0,.int .i64 6])/\(y.length<=f->AcRF w f BB L y k u w'/\AcN f ds kf pf BB L y k u):=by
 obtain⟨i,ht⟩:=h.tb;exact Xwn ht h.ix h.ip h.ho hy hk
def Ut(w0:World)(f:Nat)(BB:Nat->List BkT)(L:List Row)(k:Nat)(u:Value)(w:World): Prop:=match L[k]? with
 | some r=>∃ A c,∃ st:Nat,u=.tuple #[.slice A r.length c,.int .i64 (st:Int),.int .i64 0]/\RdR w A r/\r.length<=c/\r.length=f/\(st<=Qc f λv=>hmB (BB v))/\(r≠[]->∀ ad,A=some ad->w0.heap.size<=ad.block)
 | none=>u=.tuple #[.slice none 0 0,.int .i64 0,.int .i64 3]
def AtN(f:Nat)(kf:Nat->Nat)(pf:Nat->Int)(BB:Nat->List BkT)(L:List Row)(k:Nat)(u:Value): Prop:=∀ r,L[k]?=some r->∃ v e,u=.tuple #[v,.int .i64 ((acN (Qs f kf pf BB) (kT kf BB) f [] k:Nat):Int),e]
theorem Jmk(h:IxA w x f ds kf pf BB tot L){kv:Value}(hk:NatV w kv k):
  Ret Tryz.prog 31 [x,kv] w λu w'=>Ext w w'/\Ut w f BB L k u w'/\AtN f kf pf BB L k u:=by
 obtain⟨DA,dc,BA,cb,KA,ck,PA,cp,tv,Z,U,rfl,a2,a3,hD,hB,hK,hP,G,a1⟩:=id h.ix.ex;obtain⟨TA,tc,rfl,_⟩:=id G;refine enE Tryz.func31 Tryz.ntmps31 ?_;refine bxR ?_;intro w1 b i hb O;refine Qq O ?_;refine clR (Qbc (y:=[]) (PA:=none) (pc:=0) (h.ext i) Rd.nil (hk.ext i)) ?_;rintro u w2 ⟨C,_,h2⟩;obtain⟨j,J⟩:=h2 (Nat.zero_le _);unfold AcRF at j;unfold AcN at J;rw[Jnz]at J;have D:AtN f kf pf BB L k u:=λr o=>by
  obtain⟨v,e,h⟩:=J r o;refine⟨v,e,?_⟩;rw[h,show rkN ds (kT kf BB) [] ([]:Row).length=0 from rfl,Nat.zero_add];rfl
 rw[Jnz]at j;cases o:L[k]? with
 | none=>
  rw[o]at j;simp only at j;subst j;refine ρ ?_;refine Zz ⟨i.trans C,?_,D⟩;unfold Ut;rw[o]
 | some r=>
  rw[o]at j;simp only at j;obtain⟨A,c,st,rfl,h5,h6,h7,h8,h9⟩:=j;refine ρ ?_;refine Zz ⟨i.trans C,?_,D⟩;unfold Ut;rw[o];exact⟨A,c,st,rfl,h5,h6,h7,h8,λh0 ad e=>nL i.size (h9 h0 ad e)⟩
theorem Xkw(h:IxA w x f ds kf pf BB tot L){kv:Value}(hk:NatV w kv k):
  Ret Tryz.prog 31 [x,kv] w λu w'=>Ext w w'/\Ut w f BB L k u w':=(Jmk h hk).mono λu w' ⟨j,i,_⟩=>⟨j,i⟩
end
end Go.Proofs.YtgobkbeokaaplaaGreatDoor
