/- Part 6. -/
import Derived.Test.YtgobkbeokaaplaaGreatDoorA05
import Derived.ChangeKeysEq
set_option linter.unusedVariables false
set_option maxRecDepth 100000
set_option maxHeartbeats 40000000
namespace Go.Proofs.YtgobkbeokaaplaaGreatDoor
open Go.RowKit Pl Go.Wk
attribute [local irreducible] WC WL QX WD WDB WP WN WG
def Yx(n:Nat)(pf:Nat->Int)(T:Nat->Row->Nat)(ats:List Atm): Nat:=if ats.any (λa=>a.rows.isEmpty) then 0 else Jh n λv=>if pf v = -1 then T v [] else 1
theorem Qlq{n k:Nat}{g:Nat->Nat}(hk:k<n)(h:g k=0): Jh n g=0:=by
 rcases Nat.eq_zero_or_pos (Jh n g) with h'|h'
 .exact h'
 have:=prodR_pos.1 h' k hk;omega
theorem Jjz{S:Nat}(hS:1<=S): ∀ {n:Nat} {g:Nat->Nat},(∀ c,c<n->g c<=S)->Jh n g<=S^n
 | 0,_,_=>nR _
 | n+1,g,h=>by
  rw[Jh,Nat.pow_succ];exact Nat.mul_le_mul (Jjz hS λc hc=>h c om) (h n om)
theorem Qcv{B0 n f b cb cv ct:Nat}{kf:Nat->Nat}{pf:Nat->Int}{R:Nat->List Row}{vR Dv Pv Av Kv:Value}{BA VA TA:Option Addr}{wF w:World}{va ta:List Value}{T:Nat->Row->Nat}{ats:List Atm}{AR:Nat->Prop}(hF:FixW B0 n f kf pf R vR BA wF)(hW:BldW wF b n (bCs n f Dv Pv Av BA cb vR VA cv TA ct Kv) VA cv TA ct w va ta)(hAv:GV 3 AtG wF Av ats)(hpf:∀ c,c<n->pf c = -1∨∃ p:Nat,pf c=p)(hdv:∀ c,c<n->f<=c->DnV AR (T c) w (va.getD c (.map none)))(hdt:∀ c,c<n->c<f->DnT AR (T c) w (ta.getD c (.map none)))(hroot:∀ c,c<n->pf c = -1->f<=c->∀ k,0<T c k->k=[])(hT1:∀ c,f<=c->∀ k,T c k<=1)(hTb:∀ c k,T c k<=4294967296^20):
  Ret Tryz.prog 77 [.pointer (some ⟨b,0,none⟩)] w λu w'=>NatV w' u (Yx n pf T ats)/\Fresh w u/\Ext w w':=by
 have ab:Fresh w (.slice none 0 0):=λad m c e=>by cases e
 obtain⟨a5,hB,az,bh⟩:=hW;have bm:=hF.n32;obtain⟨AA,ac,bw,rfl,bv,bu,bi,bj⟩:=hAv.parts;refine enE Tryz.func77 Tryz.ntmps77 ?_;refine ldR (hB.at (i:=4) rfl) ?_;refine ρ ?_;refine Qv (fun (i:Nat)=>[(0,.pointer (some ⟨b,0,none⟩)),(2,.slice none 0 0),(12,.slice AA ats.length ac),(13,.int .i64 (ats.length:Int)),(14,.int .i64 (i:Int))])
  (λi w'=>i<=ats.length/\Ext w w'/\∀ j (hj:j<ats.length),j<i->ats[j].rows≠[]) (λi=>ats.length-i) 0 sB ⟨Nat.zero_le _,Ext.refl _,λj hj h=>om⟩ ?_
 rintro i w1 ⟨hi,Z,av⟩;refine ciR (λh=>?_) (λh=>?_)
 .have li:i<ats.length:=by have:=oT h;omega
  clear h;have O:=a5.trans Z;obtain⟨ce,bt,⟨⟨t1,t2,t3⟩,rfl,b6⟩,aj⟩:=bj i li;obtain⟨⟨PA,pc,b9,bp,bo,bn⟩,b8,a8⟩:=id b6;simp only at b9 b8;obtain⟨a3,PG,a4,bl,b7,_⟩:=id a8;simp only at b7 bl;subst b9;subst b8;subst b7;have aa:∀ j u,([.slice PA ats[i].vars.length pc,.int .i64 (ats[i].ar:Int),.slice PG a3.length a4]:List Value)[j]?=some u->w1.cell? ((adr AA (i*3)).add j)=some u:=λj u hu=>Gh O (aj j u hu);refine Qs 3 i (bi.ext O) li ?_;refine Jt (cs:=[.slice PA ats[i].vars.length pc,.int .i64 (ats[i].ar:Int),.slice PG a3.length a4]) aa ?_;refine Jb Yn ?_;intro w2 bb a7 ak am;refine Qb (cs':=[.slice PA ats[i].vars.length pc,.int .i64 (ats[i].ar:Int),.slice PG a3.length a4]) am ?_ (Ic rfl);intro w3 b4 bs J;have U:Ext w1 w3:=J w1 a7 ak;refine Jt (cs:=[.int .i64 (ats[i].ar:Int),.slice PG a3.length a4]) (λj u hu=>b4.sub (i:=1) (j:=j) (by rw[Nat.add_comm];exact hu)) ?_;refine clR (Jwf (b6.ext (O.trans U)).rel) ?_
  rintro u w4 ⟨rfl,a6⟩;refine ciR (λh=>?_) (λh=>?_)
  .have h0:ats[i].rows.length=0:=by have:=Zx h;omega
   refine ρ ?_;refine Jj ⟨?_,ab,(Z.trans U).trans a6⟩;grind [Yx,List.any_eq_true.2,List.getElem_mem,List.isEmpty_iff,List.eq_nil_of_length_eq_zero,NatV.nil]
  have h0:ats[i].rows.length≠0:=λe=>by have:=Xu h;omega
  refine ρ ?_;refine Qw (i+1) sO ⟨li,(Z.trans U).trans a6,λj hj bq=>?_⟩ om;grind
 have bf:i=ats.length:=by grind
 clear h;have af:ats.any (λa=>a.rows.isEmpty)=false:=by grind [List.any_eq_false,List.getElem_of_mem,List.isEmpty_iff.1]
 have ag:Yx n pf T ats=Jh n λv=>if pf v = -1 then T v [] else 1:=by unfold Yx;rw[af];rfl
 rw[ag];clear ag af av bf;obtain⟨g,hg⟩:∃ g:Nat->Nat,g=λv=>if pf v = -1 then T v [] else 1:=⟨_,rfl⟩
 rw[<-hg];have aw:∀ v,g v<=4294967296^20:=λv=>by grind
 have bd:∀ k,k<=n->Nb (Jh k g):=λk hk=>Nb.pow (k:=k) (Jjz (Nat.pow_pos (by decide)) λc _=>aw c) om;have bg:∀ v,Nb (g v):=λv=>Nb.pow (k:=1) (by rw[Nat.pow_one];exact aw v) om;refine clR (Jbm 1 (by decide) _) ?_;rintro vp w2 ⟨au,ay,a7⟩;have a1:=Z.trans a7;refine ldR ((hB.ext a1).at (i:=5) rfl) ?_;refine ρ ?_;refine Jo (fun (k:Nat) (vp:Value)=>[(0,.pointer (some ⟨b,0,none⟩)),(2,.slice none 0 0),(5,vp),(27,.slice BA n cb),(28,.int .i64 (n:Int)),(29,.int .i64 (k:Int))])
  (λk vp w'=>k<=n/\Ext w w'/\NatV w' vp (Jh k g)/\Fresh w vp) (λk _=>n-k) 0 vp sB ⟨Nat.zero_le _,a1,au,λad m c e=>nL Z.size (ay ad m c e)⟩ ?_
 clear ay au a1 a7 vp w2;rintro k vp w3 ⟨hk,J,a2,ai⟩;refine ciR (λh=>?_) (λh=>?_)
 .have lk:k<n:=by have:=oT h;omega
  clear h;have a9:∀ j u,(Qp kf pf k)[j]?=some u->w3.cell? ((adr BA (k*3)).add j)=some u:=λj u hu=>by
   have hj:j<3:=by grind [Nat.lt_or_ge,List.getElem?_eq_none,Qp]
   rw[Xt];exact(hF.bags.ext (a5.trans J)).cell ((Jqt (sz:=3) (λ_ _=>rfl) lk hj).trans hu)
  refine Qs 3 k (hF.bags.ext (a5.trans J)) lk ?_;refine Jt (cs:=Qp kf pf k) a9 ?_;refine Jb Jkm ?_;intro w4 bb a6 ak am;refine Qb (cs':=Qp kf pf k) am ?_ Jzc;intro w5 b3 br ba;have D:Ext w3 w5:=ba w3 a6 ak;have C:=J.trans D;refine ldR (b3.at (i:=2) rfl) ?_;refine ciR (λh=>?_) (λh=>?_)
  .have av:pf k≠-1:=by have:=oT h;omega
   refine ρ ?_;refine Jl (k+1) vp sO ⟨lk,C,?_,ai⟩ om;have e:Jh (k+1) g=Jh k g:=by rw[Jh,hg];grind
   rw[e];exact a2.ext D
  have hp:pf k = -1:=by grind
  have an:g k=T k []:=by grind
  have b5:=hB.ext C;refine ldR (b5.at (i:=1) rfl) ?_;refine ciR (λh=>?_) (λh=>?_)
  .have lf:k<f:=by have:=oT h;omega
   obtain⟨mb,m,fm,e1,e2,⟨e3,e4⟩,e5⟩:=hdt k lk lf;have ah:ta[k]?=some (.map (some mb)):=by grind
   have ao:Ext w5 w5.drew:=(Ext.refl w5).drew;have o:=C.trans ao;have b2:=(Rd.own bh).ext o;have ae:FitR []:=⟨by simp,λv hv=>by cases hv⟩;refine drR (scq 12 [8,10]) ?_;refine Jz ((hB.ext o).at (i:=8) rfl) ?_;refine Jc k b2 lk ?_;refine Jz (b2.cell ah) ?_;refine Jg (Jzq (r:=[]) (A:=none) (c:=0) (hF.tb.ext (a5.trans o)) Rd.nil (λu hu=>by cases hu) (by have:=ae.len;omega) (by simp)) ?_;rintro un w6 ⟨rfl,G⟩;refine⟨G,?_⟩;refine ρd ?_;refine dmlk KS (e3.ext (o.trans G)) zNat (Kj ae) ?_;have aq:NatV w6 ((fm (.string (idn []))).getD (.slice none 0 0)) (g k):=by
    rw[an];rcases e5 []with⟨h6,h7⟩|⟨y,h6,h7,h8⟩
    .rw[h6,h7];exact NatV.nil _
    rw[h6];exact h8.1.ext (o.trans G)
   refine Jg (Jzj (a2.ext ((D.trans ao).trans G)) aq (bd k hk).len (bg k).len) ?_;rintro vr w7 ⟨bc,ax,ap⟩;refine⟨ap,?_⟩;refine ρd ?_;refine ρ ?_;exact Jl (k+1) vr sO ⟨lk,(o.trans G).trans ap,bc,λad m c e=>nL (o.trans G).size (ax ad m c e)⟩ om
  have lf:f<=k:=by have:=oF h;omega
  obtain⟨mb,m,fm,e1,e2,⟨e3,e4⟩,e5,e6⟩:=hdv k lk lf;have ah:va[k]?=some (.map (some mb)):=by
   rw[<-e1];have hl:=az.1;simp[List.getD,List.getElem?_eq_getElem (show k<va.length by omega)]
  have b1:=(Rd.own az).ext C;refine ldR (b5.at (i:=7) rfl) ?_;refine ixR k b1 lk ?_;refine ldR (b1.cell ah) ?_;refine ρ ?_;refine mln KS (e3.ext C) ?_;intro q hq;refine ciR (λh=>?_) (λh=>?_)
  .have h0:q=0:=by have:=Zx h;omega
   have h1:=hq.1 h0 (.string (idn []));rw[e5]at h1;have h2:T k []=0:=by
    rcases Nat.eq_zero_or_pos (T k []) with h'|h'
    .exact h'
    rw[if_pos h']at h1;cases h1
   refine ρ ?_;refine Jj ⟨?_,ab,C⟩;rw[Qlq lk (by rw[an,h2])];exact NatV.nil _
  have h0:¬ q=0:=λe=>by have:=Xu h;omega
  have h1:0<T k []:=by
   refine Classical.byContradiction λh'=>h0 (hq.2 λkl=>?_);cases hfk:fm kl with
   | none=>rfl
   | some x=>
    obtain⟨r,rfl⟩:=e6 kl (by rw[hfk];simp);rw[e5]at hfk;split at hfk
    .rename_i hr;rw[hroot k lk hp lf r hr]at hr;exact absurd hr h'
    cases hfk
  refine ρ ?_;refine Jl (k+1) vp sO ⟨lk,C,?_,ai⟩ om;have h2:=hT1 k lf [];have e:Jh (k+1) g=Jh k g:=by rw[Jh,an,show T k []=1 by omega,Nat.mul_one]
  rw[e];exact a2.ext D
 have be:k=n:=by have:=oF h;omega
 rw[be]at a2;refine ρ ?_;exact Jj ⟨a2,ai,J⟩
open Go.RowKit Pl Go.Wk _root_.Go.Proofs.Tryz
variable {d:Bool}{bs:List BkT}{bvs cs:List Value}{M N:Nat->Prop}{A BA DA KA:Option Addr}{bv tv x:Value}{w:World}
theorem DnB.old{N N':Nat->Prop}{d:Bool}{w:World}{x:Value}{bs:List BkT}(h:DnB N d w x bs)(hs:∀ k,N' k->N k∨w.heap.size<=k): DnB N' d w x bs:=by
 obtain⟨ps,A,c,U,O,J,G,o,D,j⟩:=h;refine⟨ps,A,c,U,O,J,G,o,λh0 ad e C=>?_,λp i=>⟨(j p i).1,(j p i).2.old hs⟩⟩;rcases hs _ C with h'|h'
 .exact D h0 ad e h'
 have u:0<(Ql ps).length:=by rw[Jlf λp i=>(j p i).1];omega
 obtain⟨Z,e',hb,_⟩:=o.2 u;grind
theorem DnB.ext{N:Nat->Prop}{d:Bool}{w w':World}{x:Value}{bs:List BkT}(h:DnB N d w x bs)(hx:Ext w w'): DnB N d w' x bs:=h.gr (GrN.ext hx)
theorem DnB.nil(N:Nat->Prop)(d:Bool)(w:World): DnB N d w (.slice none 0 0) []:=⟨[],none,0,rfl,rfl,Nat.le_refl _,by simp,Rd.nil,λh=>absurd h (by simp),λp i=>by cases i⟩
theorem Xzm(w:World): (Instr.buildSlice 51 0 #[]).run prog w=.ok (.slice (some ⟨w.heap.size,0,none⟩) 0 0) (w.alloc (.cells ([]:List Value).toArray 208)):=kr
theorem Qks{n c:Nat}(hr:Rd w 3 A n cs)(h1:∀ u∈cs,u.oneCell'=true)(hb:n*24<=140737488355328):
  Ret prog 136 [.slice A n c] w λv w'=>(∃ A' c',v=.slice A' n c'/\n<=c'/\Rd w' 3 A' n cs/\∀ ad,A'=some ad->w.heap.size<=ad.block)/\Ext w w':=by
 refine enE func136 ntmps136 ?_;refine ρ ?_;refine Jjt ?_;refine ciR (λh=>?_) (λh=>?_)
 .have O:A=none:=by simpa using h
  subst O;have hn:n=0:=by
   rcases Nat.eq_zero_or_pos n with h0|h0
   .exact h0
   obtain⟨ad,U,_⟩:=hr.isome h0 om;cases U
  subst hn;refine ρ ?_;exact Jj ⟨⟨none,0,rfl,Nat.le_refl _,hr,λad e=>by cases e⟩,Ext.refl w⟩
 refine Qk Xzm ?_;intro w1 b j G D;refine ρ ?_;refine apo j EBg (D.own (n:=0) G rfl (Nat.zero_le _)) (hr.ext j) h1 (by unfold maxLen;omega) om ?_;intro v2 w2 i C _ _;obtain⟨A2,Z,rfl,o,J⟩:=Jv i;refine ρ ?_;rw[Nat.zero_add]at i o ⊢;exact Jj ⟨⟨A2,Z,rfl,o,Rd.own i,λad e=>by subst e;exact(J ad.block rfl).1⟩,C⟩
theorem Qxs(n:Nat)(kf:Nat->Nat)(pf:Nat->Int): ∀ u∈Qe n (Qp kf pf),u.oneCell'=true:=λu j=>by
 obtain⟨i,_,h⟩:=List.mem_flatMap.1 j;exact Jzc u h
theorem Xqm(h:DnB N d w x bs)(hN:∀ k,N k->k<w.heap.size):
  Ret prog 80 [x] w λu w'=>DnB N d w' u bs/\Ext w w':=by
 obtain⟨ps,A,c,rfl,rfl,hc,hl,hR,hA,am⟩:=h;refine enE func80 ntmps80 ?_;refine ρ ?_;refine Jo (fun (i:Nat) (vl:Value)=>[(3,vl),(6,.slice A ps.length c),(7,.int .i64 (ps.length:Int)),(8,.int .i64 (i:Int))])
  (λi vl w'=>i<=ps.length/\Ext w w'/\∃ o:List (List Value×BkT),w'.ownsRow w.heap.size 78 3 vl o.length (Ql o)/\o.map (·.2)=(ps.map (·.2)).take i/\∀ q∈o,q.1.length=3/\BkE d (λk=>N k∨vl.ownBlock=some k) w' q.1 q.2) (λi _=>ps.length-i) 0 (.slice none 0 0) sB
  ⟨Nat.zero_le _,Ext.refl _,[],Zc _ _ _ _,rfl,λq hq=>by cases hq⟩ ?_
 rintro i vl w1 ⟨hi,a2,o,ae,a7,a6⟩;obtain⟨LA,lc,rfl,ay,J⟩:=Jv ae;have ba:o.length=i:=by have:=congrArg List.length a7;rw[List.length_map,List.length_take,List.length_map]at this;omega
 refine ciR (λh=>?_) (λh=>?_)
 .have li:i<ps.length:=by have:=oT h;omega
  clear h;obtain⟨z,hz⟩:∃ z,z=ps[i]:=⟨_,rfl⟩;have ar:z∈ps:=by rw[hz];exact List.getElem_mem li
  obtain⟨b9,ai⟩:=am z ar;have a4:∀ j u,z.1[j]?=some u->w1.cell? ((adr A (i*3)).add j)=some u:=λj u hu=>by
   have hj:j<3:=by have:=(List.getElem?_eq_some_iff.1 hu).1;omega
   rw[Xt];refine(hR.ext a2).cell ?_;rw[Iu (p:=z) (λp hp=>(am p hp).1) (by rw[hz];exact gE li) hj];exact hu
  obtain⟨kv,zq,ap,ab,aa⟩:=id ai;obtain⟨Z,rfl⟩:=aa.ptr;obtain⟨zc,zk,zt⟩:=z;simp only at ap ab aa a4 ai;subst ap;obtain⟨aq,ag,rfl,b7,b6,b8,_⟩:=id ab;refine Qs 3 i (hR.ext a2) li ?_;refine Jt (cs:=[.slice aq zk.length ag,.bool d,.pointer Z]) a4 ?_;refine Jb Jcz ?_;intro w2 bb av b1 b2;refine Qb (cs':=[.slice aq zk.length ag,.bool d,.pointer Z]) b2 ?_ (Jbh rfl);intro w3 ao bc au;have a1:Ext w1 w3:=au w1 av b1;have a5:Ext w3 w3.drew:=(Ext.refl w3).drew;have a8:=a2.trans (a1.trans a5);have a9:=ao.ext a5;have an:¬ (Value.slice LA o.length lc).ownBlock=some bb:=λe=>by have:=(J bb e).2;omega
  refine ρ ?_;refine drN (λk=>(Value.slice LA o.length lc).ownBlock=some k) 10 [(0,0),(0,1),(0,2),(0,4),(0,5),(1,3),(0,6),(1,7),(1,8),(0,9)] kr ?_;refine ρn ?_;refine nld (Js (a9.at (i:=0) rfl) an) ?_;refine ρn ?_;refine Xp (cs:=[.bool d,.pointer Z]) (λw' hg j u hu=>Js (a9.sub (i:=1) (j:=j) (by rw[Nat.add_comm];exact hu)) (by rw[Uo];exact an) w' hg) ?_;refine ρn ?_;refine nop ?_;refine cl (Ua (r:=zk) (ab.v.ext a8) (λk=>N k∨(Value.slice LA o.length lc).ownBlock=some k) λk O=>?_) ?_
  .rcases O with U|U
   .exact nM (hN k U) a8.size
   exact nM (J k U).2 (a1.trans a5).size
  rintro kv w4 ⟨ak,aj⟩;obtain⟨D,C,rfl,_⟩:=id ak;refine ρ ?_;refine Je (GrN.ext aj) ?_;refine ρn ?_;refine Jqh (Qwl _ D _ C d Z rfl) ?_;refine ρn ?_;refine nop ?_;refine bsl (Qwg _ D _ C d Z rfl) ?_;intro w5 b5 ac bd b3;refine ρ ?_;refine Je (GrN.ext ac) ?_;refine ρn ?_;refine nop ?_;have G:Ext w1 w5:=((a1.trans a5).trans aj).trans ac;have a3:=a2.trans G;refine apb (m':=1) (news:=[.slice D zk.length C,.bool d,.pointer Z]) EBk (Jk ae G) (b3.rd (n:=1) rfl) (Jbh rfl) (by unfold maxLen;omega) om a3.size ?_;intro v6 w6 aw af ax;have b4:∀ g,(Value.slice LA o.length lc).ownBlock=some g->g<w5.heap.size:=λg eg=>nM (J g eg).2 G.size;refine ρ ?_;refine Je (GrN.by af λg eg=>eg) ?_;refine ρn ?_;refine ρ ?_;have key:∀ p:List Value×BkT,BkE d (λk=>N k∨(Value.slice LA o.length lc).ownBlock=some k) w5 p.1 p.2->BkE d (λk=>N k∨v6.ownBlock=some k) w6 p.1 p.2:=λp h1=>by
   have h2:BkE d (λk=>(N k∨(Value.slice LA o.length lc).ownBlock=some k)∨v6.ownBlock=some k) w5 p.1 p.2:=h1.old λk O=>by
    rcases O with U|U
    .exact .inl U
    rcases ax k U with h''|h''
    .exact .inl (.inr h'')
    exact .inr h''
   exact(h2.gr (GrN.by af λk O=>.inl (.inr O))).old λk O=>.inl (O.elim (λU=>.inl (.inl U)) .inr)
  have ah:TrV (λk=>N k∨(Value.slice LA o.length lc).ownBlock=some k) w5 zt (.pointer Z):=by
   refine TrV.ext (TrV.old ?_ aa) a3;intro k O;rcases O with U|U
   .exact .inl U
   exact .inr (J k U).1
  refine Jl (i+1) v6 sO ⟨li,Qh a3 af (λg eg=>(J g eg).1),o++[([.slice D zk.length C,.bool d,.pointer Z],(zk,zt))],?_,?_,λq hq=>?_⟩ om
  .rw[List.length_append,List.length_singleton];have e:Ql (o++[([.slice D zk.length C,.bool d,.pointer Z],(zk,zt))])=Ql o++[.slice D zk.length C,.bool d,.pointer Z]:=by simp[Ql]
   rw[e];exact aw
  .rw[List.map_append,a7,List.take_succ_eq_append_getElem (by rw[List.length_map];exact li),List.getElem_map,<-hz];rfl
  rcases List.mem_append.1 hq with h1|h1
  .exact⟨(a6 q h1).1,key q ((a6 q h1).2.ext G)⟩
  rw[List.mem_singleton.1 h1];exact⟨rfl,key ([.slice D zk.length C,.bool d,.pointer Z],(zk,zt)) ⟨_,_,rfl,ak.ext ac,ah⟩⟩
 have az:i=ps.length:=by have:=oF h;omega
 rw[az,List.take_of_length_le (by rw[List.length_map];exact nR _)]at a7;refine ρ ?_;refine Jj ⟨⟨o,LA,lc,a7.symm,rfl,ay,om,Rd.own ae,λh0 ad e O=>?_,λp hp=>⟨(a6 p hp).1,?_⟩⟩,a2⟩
 .have:=(J ad.block (by rw[e];simp[Value.ownBlock])).1;have:=hN _ O;omega
 exact(a6 p hp).2.old λk O=>.inl (.inl O)
def Ze(bs:List BkT)(k:Row): Option Nat:=bs.findIdx? λb=>decide (b.1=k)
theorem Qtm(bs:List BkT)(b:BkT)(k:Row)(h:b.1 ∉ bs.map (·.1)): Ze (bs++[b]) k=if b.1=k then some bs.length else Ze bs k:=by grind [Ze,List.findIdx?_eq_none_iff,List.mem_map.2]
structure VarQ(N:Nat->Prop)(d:Bool)(w:World)(bv pv:Value)(bs:List BkT): Prop where
 bks:DnB N d w bv bs
 plc:∃ mb m fm,pv=.map (some mb)/\m<=1000000/\(MapS prog 9 w mb m fm/\¬ N mb)/\∀ k:Row,fm (.string (idn k))=(Ze bs k).map λi=>.int .i64 (i:Int)
theorem VarQ.gr{N:Nat->Prop}{d:Bool}{w w':World}{bv pv:Value}{bs:List BkT}(h:VarQ N d w bv pv bs)(hg:GrN N w w'): VarQ N d w' bv pv bs:=by
 refine⟨h.bks.gr hg,?_⟩;obtain⟨j,m,fm,D,C,⟨u,i⟩,o⟩:=h.plc;exact⟨j,m,fm,D,C,⟨u.gr hg i,i⟩,o⟩
theorem VarQ.none{pv:Value}(h:VarQ N d w bv pv bs): VarQ (λ_=>False) d w bv pv bs:=by
 refine⟨h.bks.old λk i=>i.elim,?_⟩;obtain⟨j,m,fm,G,D,⟨C,u⟩,o⟩:=h.plc;grind
structure IxV(w:World)(x:Value)(f:Nat)(ds:List Bool)(kf:Nat->Nat)(pf:Nat->Int)(BB:Nat->List BkT)(tot:Nat): Prop where
 ex:∃ DA dc BA cb KA ck PA cp tv kvs pvs,x=.agg #[.slice DA f dc,.slice BA f cb,.slice KA f ck,.slice PA f cp,tv]/\f<=dc/\f<=cb/\RdB w DA ds/\Rd w 3 BA f (Qe f (Qp kf pf))/\Rd w 1 KA f kvs/\Rd w 1 PA f pvs/\NatV w tv tot /\
  ∀ v,v<f->VarQ (λ_=>False) (ds.getD v false) w (kvs.getD v (.slice none 0 0)) (pvs.getD v (.map none)) (BB v)
 dl:ds.length=f
 f32:f<=32
theorem IxV.ext{w w':World}{x:Value}{f:Nat}{ds:List Bool}{kf:Nat->Nat}{pf:Nat->Int}{BB:Nat->List BkT}{tot:Nat}(h:IxV w x f ds kf pf BB tot)(hx:Ext w w'): IxV w' x f ds kf pf BB tot:=by
 obtain⟨DA,dc,BA,cb,KA,ck,PA,cp,o,j,i,h1,h2,Z,U,O,J,G,D,C⟩:=h.ex;exact⟨⟨DA,dc,BA,cb,KA,ck,PA,cp,o,j,i,h1,h2,Z,Rd.ext U hx,O.ext hx,J.ext hx,G.ext hx,D.ext hx,λv u=>(C v u).gr (GrN.ext hx)⟩,h.dl,h.f32⟩
theorem Jxd: Qt prog 55=some (.agg #[.slice none 0 0,.slice none 0 0,.slice none 0 0,.slice none 0 0,.slice none 0 0]):=kr
theorem Xkl(A B C:Option Addr)(a b c a' b' c':Nat)(w:World): (Instr.build 55 #[(0,.slice A a a'),(1,.slice B b b'),(4,.slice C c c')]).run prog w=.ok (.agg #[.slice A a a',.slice B b b',.slice none 0 0,.slice none 0 0,.slice C c c']) w:=kr
theorem Qjk{B C D E:Option Addr}{a b c d e a' b' c' d' e':Nat}: ∀ u∈[Value.slice A a a',.slice B b b',.slice C c c',.slice D d d',.slice E e e'],u.oneCell'=true:=λu i=>by
 simp only[List.mem_cons,List.not_mem_nil,or_false]at i;rcases i with rfl|rfl|rfl|rfl|rfl<;>rfl
theorem EBks: ElT prog 52 72 1 24 (.slice none 0 0):=⟨underlying52,info_parts kr,rfl,by decide⟩
theorem EPls: ElT prog 53 228 1 8 (.map none):=⟨underlying53,info_parts kr,rfl,by decide⟩
theorem Up(z:Value)(h:z.cells = #[z])(n:Nat): (madeCells z.cells (n*1)).toList=List.replicate n z:=by rw[Nat.mul_one,h];exact Yu _ _
theorem Xwm{B0 f dc cb ck tot:Nat}{ds:List Bool}{kf:Nat->Nat}{pf:Nat->Int}{BB:Nat->List BkT}(hTB:TB B0 w)(hdl:ds.length=f)(f32:f<=32)(hD:RdB w DA ds)(hBg:Rd w 3 BA f (Qe f (Qp kf pf)))(hK:Rd w 1 KA f bvs)(hel:∀ v,v<f->DnB M (ds.getD v false) w (bvs.getD v (.slice none 0 0)) (BB v))(htv:NatX M w tv tot)(hM:∀ k,M k->k<w.heap.size)(hfit:∀ v,v<f->∀ b∈BB v,FitR b.1)(hlt:∀ v,v<f->Lt [] ((BB v).map (·.1))):
  Ret prog 78 [.slice DA f dc,.slice BA f cb,.slice KA f ck,tv] w λu w'=>Off M w' (λW=>IxV W u f ds kf pf BB tot)/\IxV w' u f ds kf pf BB tot/\Ext w w':=by
 obtain⟨TA,tc,rfl,fw⟩:=id htv.1;have fd:Rd w 1 DA f (ds.map Value.bool):=hdl ▸ hD;refine enE func78 ntmps78 ?_;refine Jb Jxd ?_;intro w1 b8 an dv d7;refine clR (Qkr (fd.ext an) (λu hu=>by obtain⟨b,_,rfl⟩:=List.mem_map.1 hu;rfl) om) ?_;rintro _ w2 ⟨⟨bn,c1,rfl,dq,bi,f4⟩,am⟩;refine clR (Qks ((hBg.ext an).ext am) (Qxs _ _ _) om) ?_;rintro _ w3 ⟨⟨bo,c2,rfl,dt,cn,f5⟩,ak⟩;refine Xo (Xkl _ _ _ _ _ _ _ _ _ _) ?_;refine Jb Jxd ?_;intro w4 b9 ew aq fe;refine Xa fe ?_;intro w5 ee g0 eu;have a8:Ext w3 w5:=eu w3 ew aq;have c5:Ext w w5:=((an.trans am).trans ak).trans a8;have b1:Ext w5 w5.drew:=(Ext.refl w5).drew;have bj:=ee.ext b1;refine ρ ?_;refine drH (λi=>Nat.beq i 7 || Nat.beq i 9) ?_;refine Zo (fuel':=8) 8 [(0,0),(0,1)] #[true,true,false,false,false,false,false,false,false,false] kr kr rfl ?_;refine ρd ?_
 refine Xy ?_;refine Ud (fuel':=7) 3 kr kr rfl rfl ?_;refine ρp ?_;refine ρd ?_;refine Xy ?_;refine Ud (fuel':=6) 4 kr kr rfl rfl ?_;refine ρp ?_;refine ρd ?_;refine Xy ?_;have g1:w5.drew.heap.size=w5.heap.size:=rfl;refine Jwz 2 (lst 10 8) (fun (y:Option Addr×Option Addr)=>[(24,.slice y.2 f f),(9,.pointer (some ⟨b9,0,none⟩)),(8,.pointer (some ⟨b8,0,none⟩)),(0,.slice DA f dc),(2,.slice KA f ck)])
  (λy W=>GrN (λk=>k=b9) w5.drew W/\Blk W b9 55 [.slice bn f c1,.slice bo f c2,.slice y.1 f f,.slice none 0 0,.slice TA (Jq tot).length tc] /\
   W.ownsRow w5.drew.heap.size 72 1 (.slice y.1 f f) f (List.replicate f (.slice none 0 0))/\W.ownsRow w5.drew.heap.size 228 1 (.slice y.2 f f) f (List.replicate f (.map none))) ?_ ?_
 rotate_left
 .intro rest;refine itwo 2 5 kr rfl rfl rfl ?_ ?_
  .refine mkn EBks f om (by unfold maxLen;omega) ?_;intro w6 D a9 ag _;rw[Up _ rfl]at ag;refine Jf (Ks (λ_=>a9) ?_);refine Ud (fuel':=4) 6 kr kr rfl rfl ?_;refine ρp ?_;refine ρd ?_;refine Xy ?_;refine itwo 5 7 kr rfl rfl rfl ?_ ?_
   .refine mkn EPls f om (by unfold maxLen;omega) ?_;intro w7 G Z ae _;rw[Up _ rfl]at ae;refine Jf (Ks (λ_=>Z) ?_);refine Jwt 7 kr rfl rfl ?_;have a4:=(bj.ext a9).ext Z;refine sto (a4.at (i:=2) rfl) (a4.frozen 2) ?_;refine Jf (Ks (λh=>by cases h) ?_);refine hlist (listed':=lst 10 8) kr ?_;have aa:GrN (λk=>k=b9) w7 (w7.setCell ⟨b9,2,none⟩ (.slice D f f)):=GrN.set _ rfl;refine rest (D,G) _ _ ⟨(GrN.ext (a9.trans Z)).trans aa,a4.set 2 _,Ja (Jk ag Z) aa λg U e=>?_,Ja (ae.mono a9.size) aa λg U e=>?_⟩ sB
    .rw[e]at U;exact a4.ne_own (Jk ag Z) rfl U.symm
    rw[e]at U;exact a4.ne_own ae rfl U.symm
   have ac:=bj.ext a9;refine sto (ac.at (i:=2) rfl) (ac.frozen 2) ?_;refine Jf (Ks (λh=>by cases h) ?_);refine Jwt 5 kr rfl rfl ?_;have aa:GrN (λk=>k=b9) w6 (w6.setCell ⟨b9,2,none⟩ (.slice D f f)):=GrN.set _ rfl;refine mkn EPls f om (by unfold maxLen;omega) ?_;intro w7 G Z ae _;rw[Up _ rfl]at ae;refine Jf (Ks (λ_=>Z) ?_);refine hlist (listed':=lst 10 8) kr ?_;refine rest (D,G) _ _ ⟨((GrN.ext a9).trans aa).trans (GrN.ext Z),(ac.set 2 _).ext Z,Jk (Ja ag aa λg U e=>?_) Z,ae.mono (nL a9.size aa.size)⟩ sB;rw[e]at U;exact ac.ne_own ag rfl U.symm
  refine mkn EPls f om (by unfold maxLen;omega) ?_;intro w6 G a9 ar _;rw[Up _ rfl]at ar;refine Jf (Ks (λ_=>a9) ?_);refine Jwt 2 kr rfl rfl ?_;refine mkn EBks f om (by unfold maxLen;omega) ?_;intro w7 D Z av _;rw[Up _ rfl]at av;refine Jf (Ks (λ_=>Z) ?_);refine Ud (fuel':=3) 6 kr kr rfl rfl ?_;refine ρp ?_;refine ρd ?_;refine Xy ?_;refine Jwt 7 kr rfl rfl ?_;have a4:=(bj.ext a9).ext Z;refine sto (a4.at (i:=2) rfl) (a4.frozen 2) ?_;refine Jf (Ks (λh=>by cases h) ?_);refine hlist (listed':=lst 10 8) kr ?_;have aa:GrN (λk=>k=b9) w7 (w7.setCell ⟨b9,2,none⟩ (.slice D f f)):=GrN.set _ rfl;refine rest (D,G) _ _ ⟨(GrN.ext (a9.trans Z)).trans aa,a4.set 2 _,Ja (av.mono a9.size) aa λg U e=>?_,Ja (Jk ar Z) aa λg U e=>?_⟩ sB
  .rw[e]at U;exact a4.ne_own av rfl U.symm
  rw[e]at U;exact a4.ne_own (Jk ar Z) rfl U.symm
 rintro⟨D,G⟩ w6 ⟨ah,ac,ag,ar⟩;simp only at ac ag ar;refine Ud (fuel':=1) 8 kr kr rfl rfl ?_;refine ρp ?_;refine ρd ?_;refine Xy ?_;refine Jwt 9 kr rfl rfl ?_;refine sto (ac.at (i:=3) rfl) (ac.frozen 3) ?_;refine Jf (Ks (λh=>by cases h) ?_);refine Uf kr ?_;obtain⟨w7,br⟩:∃ w7,w7=w6.setCell ⟨b9,3,none⟩ (.slice G f f):=⟨_,rfl⟩;have ab:GrN (λk=>k=b9) w6 w7:=by rw[br];exact GrN.set _ rfl
 have a4:Blk w7 b9 55 [.slice bn f c1,.slice bo f c2,.slice D f f,.slice G f f,.slice TA (Jq tot).length tc]:=by rw[br];exact ac.set 3 _
 have av:=Ja ag ab λg U e=>by rw[e]at U;exact ac.ne_own ag rfl U.symm
 have ae:=Ja ar ab λg U e=>by rw[e]at U;exact ac.ne_own ar rfl U.symm
 rw[show w6.setCell ((⟨b9,0,none⟩:Addr).add 3) (.slice (D,G).2 f f)=w7 from br.symm];clear br;obtain⟨N,bt⟩:∃ N:Nat->Prop,N=λk=>(Value.slice D f f).ownBlock=some k∨(Value.slice G f f).ownBlock=some k:=⟨_,rfl⟩;obtain⟨NB,bf⟩:∃ NB:Nat->Prop,NB=λk=>N k∨k=b8∨M k:=⟨_,rfl⟩;have af:∀ {W W':World},GrN N W W'->GrN NB W W':=λhg=>hg.mono λk _ o=>by rw[bf];exact .inl o
 have lK:∀ g,(Value.slice D f f).ownBlock=some g->w5.heap.size<=g/\g<w7.heap.size:=(Jv av).choose_spec.choose_spec.2.2;have lP:∀ g,(Value.slice G f f).ownBlock=some g->w5.heap.size<=g/\g<w7.heap.size:=(Jv ae).choose_spec.choose_spec.2.2;have au:∀ k,N k->w5.heap.size<=k/\k<w7.heap.size:=λk o=>by
  rw[bt]at o;exact o.elim (lK k) (lP k)
 have bu:¬ N b9:=λo=>by
  rw[bt]at o;rcases o with h'|h'
  .exact a4.ne_own av rfl h'.symm
  exact a4.ne_own ae rfl h'.symm
 have dd:Ext w w7:=by
  have h1:Ext w3 w6:=(ah.old (a8.trans b1) λk o=>by rw[o];exact aq);have h2:Ext w3 w7:=ab.old h1 λk o=>by rw[o];exact aq
  exact((an.trans am).trans ak).trans h2
 have fr:b8<w3.heap.size:=nM d7.lt (am.trans ak).size;have ei:Blk w7 b8 55 _:=Jy (Jy ((((d7.ext am).ext ak).ext (a8.trans b1))) ah λe=>om) ab λe=>by omega
 have fb:Rd w7 1 bn f (ds.map Value.bool):=by
  have h1:Ext w3 w6:=(ah.old (a8.trans b1) λk o=>by rw[o];exact aq);have h2:Ext w3 w7:=ab.old h1 λk o=>by rw[o];exact aq
  exact Rd.ext (Rd.ext bi ak) h2
 have ec:Rd w7 3 bo f (Qe f (Qp kf pf)):=by
  have h1:Ext w3 w6:=(ah.old (a8.trans b1) λk o=>by rw[o];exact aq);have h2:Ext w3 w7:=ab.old h1 λk o=>by rw[o];exact aq
  exact Rd.ext cn h2
 have fi:w5.heap.size<=w7.heap.size:=nL ah.size ab.size;have ex:w3.heap.size<=w5.heap.size:=a8.size;refine ρ ?_;refine Zq (fun (v:Nat) (C J:List Value)=>[(8,.pointer (some ⟨b8,0,none⟩)),(9,.pointer (some ⟨b9,0,none⟩)),(2,.slice KA f ck),(28,.int .i64 (f:Int)),(29,.int .i64 (v:Int))])
  (λv C J w'=>v<=f/\GrN N w7 w'/\w'.ownsRow w5.drew.heap.size 72 1 (.slice D f f) f C/\w'.ownsRow w5.drew.heap.size 228 1 (.slice G f f) f J /\
   ∀ u,u<v->VarQ NB (ds.getD u false) w' (C.getD u (.slice none 0 0)) (J.getD u (.map none)) (BB u)) (λv _ _=>f-v) 0 _ _ sB
  ⟨Nat.zero_le _,GrN.refl _ _,av,ae,λu hu=>om⟩ ?_
 rintro v C J w8 ⟨hv,a2,d2,cw,dz⟩;have ax:=Jy a4 a2 bu;have a1:Ext w w8:=a2.old dd λk o=>by have:=(au k o).1;have:=c5.size;omega
 refine ciR (λh=>?_) (λh=>?_)
 .have lv:v<f:=by have:=oT h;omega
  clear h;obtain⟨d,hd⟩:∃ d,d=ds.getD v false:=⟨_,rfl⟩;have c9:=hel v lv;rw[<-hd]at c9;have fp:bvs.length=f:=by have:=hK.len;omega
  have fz:C.length=f:=by have:=d2.1;omega
  have fx:J.length=f:=by have:=cw.1;omega
  have cx:∀ k,N k->w.heap.size<=k:=λk o=>nL c5.size (au k o).1;have a7:Ext w8 w8.drew:=(Ext.refl w8).drew;have bl:=ax.ext a7;have cj:=Jk d2 a7;have cc:=Jk cw a7;have f9:Rd w8.drew 1 KA f bvs:=hK.ext (a1.trans a7);have e5:∀ g,(Value.slice D f f).ownBlock=some g->N g:=λg U=>by rw[bt];exact .inl U
  have cy:∀ g,(Value.slice G f f).ownBlock=some g->N g:=λg U=>by rw[bt];exact .inr U
  have ca:∀(W:World) (N':Nat->Prop),Ext w W->(∀ k,N' k->(M k∨w.heap.size<=k)/\k<W.heap.size)->Ret prog 80 [bvs.getD v (.slice none 0 0)] W λu w'=>DnB N' d w' u (BB v)/\Ext W w':=λW N' et e6=>
   Xqm ((((c9.old (N':=λk=>M k∨w.heap.size<=k) λk o=>o)).ext et).old λk o=>.inl (e6 k o).1) λk o=>(e6 k o).2
  have b3:∀(W:World) (C:List Value) (u:Value),W.ownsRow w5.drew.heap.size 72 1 (.slice D f f) f C->W.ownsRow w5.drew.heap.size 228 1 (.slice G f f) f J ->
    W.cell? (adr D v)=C[v]?/\W.frozen? (adr D v)=false/\(W.setCell (adr D v) u).ownsRow w5.drew.heap.size 72 1 (.slice D f f) f (C.set v u)/\(W.setCell (adr D v) u).ownsRow w5.drew.heap.size 228 1 (.slice G f f) f J/\GrN N W (W.setCell (adr D v) u):=λW C u e9 f7=>by
   obtain⟨s1,s2,s3,s4,s5⟩:=Zm e9 (q:=v) om u;exact⟨s1,s2,s3,Zn f7 e9 s5 rfl,GrN.by s5 e5⟩
  refine ρ ?_;refine drM N ?_;refine Gb (fuel':=6) [(0,0),(0,1),(0,2),(0,3),(0,4),(0,5),(0,6),(0,7),(0,8),(0,9)] (lst 16 10) kr kr rfl ?_;refine ρn ?_;refine nld (Js (bl.at (i:=2) rfl) bu) ?_;refine ρn ?_;refine nld (Js (bl.at (i:=3) rfl) bu) ?_;refine ρn ?_;refine nix v f9 lv ?_;refine ρn ?_;refine nld (v:=bvs.getD v (.slice none 0 0)) (λw' hg=>Gh (hg.old (a1.trans a7) cx) (hK.cell (show bvs[v]?=some (bvs.getD v (.slice none 0 0)) by simp[List.getD,List.getElem?_eq_getElem (show v<bvs.length by omega)]))) ?_;refine ρn ?_;refine Gc ?_;refine mcut 2 (lst 16 14) (fun (y:Value×Nat)=>[(43,.map (some y.2)),(36,.slice G f f),(37,.int .i64 (v:Int)),(10,.int .i64 (v:Int)),(8,.pointer (some ⟨b8,0,none⟩)),(9,.pointer (some ⟨b9,0,none⟩)),(2,.slice KA f ck),(28,.int .i64 (f:Int)),(29,.int .i64 (v:Int))])
   (λy W=>GrN N w8.drew W/\W.ownsRow w5.drew.heap.size 72 1 (.slice D f f) f (C.set v y.1)/\W.ownsRow w5.drew.heap.size 228 1 (.slice G f f) f J/\DnB (λk=>NB k∨k=y.2) d W y.1 (BB v)/\MapS prog 9 W y.2 0 (λ_=>none)/\w8.heap.size<=y.2) ?_ ?_
  rotate_left
  .intro rest;have aw:∀ k,NB k->(M k∨w.heap.size<=k)/\k<w8.heap.size:=λk o=>by
    rw[bf]at o;rcases o with o|o|o
    .exact⟨.inr (cx k o),Nat.lt_of_lt_of_le (au k o).2 a2.size⟩
    .have:=a2.size;rw[o];exact⟨.inr dv,om⟩
    exact⟨.inl o,Nat.lt_of_lt_of_le (hM k o) a1.size⟩
   have be:∀ k,N k->k<w8.heap.size:=λk o=>nM (au k o).2 a2.size;refine Jzk 10 11 kr rfl rfl rfl ?_ ?_
   .refine cl (ca _ NB (a1.trans a7) aw) ?_;rintro u W1 ⟨bz,a3⟩;have d3:=Jk cj a3;have e3:=Jk cc a3;refine Jf (Xr (GrN.ext a3) ?_);refine Gb (fuel':=4) [(0,12)] #[true,true,true,true,true,true,true,true,true,true,true,false,true,false,false,false] kr kr rfl ?_;refine ρn ?_;refine nix v (Rd.own d3) lv ?_;refine ρn ?_;refine Gc ?_;refine Jzk 11 13 kr rfl rfl rfl ?_ ?_
    .refine mkm 9 ?_;intro W2 mb O ao d1;refine Jf (Xr (GrN.ext O) ?_);refine Yg 13 kr rfl rfl ?_;obtain⟨s1,s2,s3,s4,s5⟩:=b3 W2 C u (Jk d3 O) (Jk e3 O);refine sto (s1.trans (show C[v]?=some (C.getD v (.slice none 0 0)) by simp[List.getD,List.getElem?_eq_getElem (show v<C.length by omega)])) s2 ?_ rfl rfl rfl rfl rfl (by obtain⟨_,_,_,_,e,_⟩:=bz;rw[e];rfl);refine Jf (Xr s5 ?_);refine Kp (listed':=lst 16 14) kr ?_;refine rest (u,mb) _ _ ⟨(GrN.ext (a3.trans O)).trans s5,s3,s4,?_,d1.gr s5 λo=>?_,Nat.le_trans a3.size ao⟩ sB
     .exact(((bz.old (N':=λk=>NB k∨k=mb) λk o=>o.imp id λe=>by rw[e];exact ao).ext O).gr ((af s5).mono λk _ o=>.inl o))
     have h1:=be _ o;have h2:w8.heap.size<=W1.heap.size:=a3.size;omega
    obtain⟨s1,s2,s3,s4,s5⟩:=b3 W1 C u d3 e3;refine sto (s1.trans (show C[v]?=some (C.getD v (.slice none 0 0)) by simp[List.getD,List.getElem?_eq_getElem (show v<C.length by omega)])) s2 ?_ rfl rfl rfl rfl rfl (by obtain⟨_,_,_,_,e,_⟩:=bz;rw[e];rfl);refine Jf (Xr s5 ?_);refine Yg 11 kr rfl rfl ?_;refine mkm 9 ?_;intro W2 mb O ao d1;refine Jf (Xr (GrN.ext O) ?_);refine Kp (listed':=lst 16 14) kr ?_;refine rest (u,mb) _ _ ⟨((GrN.ext a3).trans s5).trans (GrN.ext O),Jk s3 O,Jk s4 O,?_,d1,Nat.le_trans a3.size (nL s5.size ao)⟩ sB;exact((bz.gr (af s5)).old (N':=λk=>NB k∨k=mb) λk o=>o.imp id λe=>by rw[e];exact ao).ext O
   refine mkm 9 ?_;intro W1 mb a3 ao e8;refine Jf (Xr (GrN.ext a3) ?_);refine Yg 10 kr rfl rfl ?_;have fk:=e8.lt;have dh:w8.heap.size<=mb:=ao;have g2:w8.heap.size<=W1.heap.size:=a3.size;refine cl (ca _ (λk=>NB k∨k=mb) ((a1.trans a7).trans a3) λk o=>?_) ?_
   .rcases o with o|o
    .have:=aw k o;exact⟨this.1,om⟩
    have:=a1.size;exact⟨.inr om,om⟩
   rintro u W2 ⟨bi,O⟩;have cm:=Jk (Jk cj a3) O;have f8:=Jk (Jk cc a3) O;refine Jf (Xr (GrN.ext O) ?_);refine Gb (fuel':=3) [(0,12)] (lst 16 13) kr kr rfl ?_;refine ρn ?_;refine nix v (Rd.own cm) lv ?_;refine ρn ?_;refine Gc ?_;refine Yg 13 kr rfl rfl ?_;obtain⟨s1,s2,s3,s4,s5⟩:=b3 W2 C u cm f8;refine sto (s1.trans (show C[v]?=some (C.getD v (.slice none 0 0)) by simp[List.getD,List.getElem?_eq_getElem (show v<C.length by omega)])) s2 ?_ rfl rfl rfl rfl rfl (by obtain⟨_,_,_,_,e,_⟩:=bi;rw[e];rfl);refine Jf (Xr s5 ?_);refine Kp (listed':=lst 16 14) kr ?_;refine rest (u,mb) _ _ ⟨(GrN.ext (a3.trans O)).trans s5,s3,s4,bi.gr ((af s5).mono λk _ o=>.inl o),(e8.ext O).gr s5 λo=>?_,dh⟩ sB;have:=be _ o;omega
  rintro⟨u,mb⟩ w9 ⟨b7,bv,bd,d5,d0,dg⟩;simp only at bv d5 d0 dg;refine Gb (fuel':=1) [(0,14)] (lst 16 15) kr kr rfl ?_;refine ρn ?_;refine nix v (Rd.own bd) lv ?_;refine ρn ?_;refine Gc ?_;refine Yg 15 kr rfl rfl ?_;obtain⟨r1,r2,r3,r4,r5⟩:=Zm bd (q:=v) om (.map (some mb));refine sto (r1.trans (show J[v]?=some (J.getD v (.map none)) by simp[List.getD,List.getElem?_eq_getElem (show v<J.length by omega)])) r2 ?_;have b4:=GrN.by r5 cy
  refine Jf (Xr b4 ?_);refine mend kr ?_;obtain⟨ay,c6⟩:∃ ay,ay=w9.setCell (adr G v) (.map (some mb)):=⟨_,rfl⟩;rw[<-c6]at r3 r5 b4 ⊢;clear c6;have aw:∀ k,N k->k<w8.heap.size:=λk o=>nM (au k o).2 a2.size;have ai:¬ N mb:=λo=>by have:=aw _ o;omega
  have cz:¬ NB mb:=λo=>by
   rw[bf]at o;rcases o with o|o|o
   .exact ai o
   .have:=a2.size;omega
   have:=hM _ o;have:=a1.size;omega
  have ap:=(GrN.ext (N:=N) a7).trans (b7.trans b4);have bm:=Jy ax ap bu;have bg:=Zn bv bd r5 rfl;have eb:=d5.gr ((af b4).mono λk _ o=>.inl o);have ch:=d0.gr b4 ai;have c3:Ext w ay:=ap.old a1 cx;have f0:=ch.lt;clear d5 d0;obtain⟨ps,GA,gc,c0,rfl,f3,df,d4,ea,bw⟩:=eb;have dk:(C.set v (.slice GA ps.length gc))[v]?=some (.slice GA ps.length gc):=by rw[List.getElem?_set_self om]
  have du:¬ b9=mb:=λe=>by have:=ax.lt;omega
  have dj:ps.length=(BB v).length:=by rw[c0,List.length_map]
  have f6:=hTB.ext c3;refine ldR (bm.at (i:=2) rfl) ?_;refine ixR v (Rd.own bg) lv ?_;refine ldR ((Rd.own bg).cell dk) ?_;refine ρ ?_;refine Zq (fun (i:Nat) (mc:Nat) (fm:Lit->Option Value)=>[(8,.pointer (some ⟨b8,0,none⟩)),(9,.pointer (some ⟨b9,0,none⟩)),(2,.slice KA f ck),(10,.int .i64 (v:Int)),(28,.int .i64 (f:Int)),(29,.int .i64 (v:Int)),(50,.slice GA ps.length gc),(51,.int .i64 (ps.length:Int)),(52,.int .i64 (i:Int))])
   (λi mc fm w'=>i<=ps.length/\GrN (λk=>k=mb) ay w'/\MapS prog 9 w' mb mc fm/\mc<=i/\∀ k:Row,fm (.string (idn k))=(Ze ((BB v).take i) k).map λj=>.int .i64 (j:Int)) (λi _ _=>ps.length-i) 0 0 (λ_=>none) sB
   ⟨Nat.zero_le _,GrN.refl _ _,ch,Nat.le_refl _,λk=>rfl⟩ ?_
  rintro i mc fm aj ⟨hi,a5,cg,fy,cr⟩;refine ciR (λh=>?_) (λh=>?_)
  .have li:i<ps.length:=by have:=oT h;omega
   clear h;obtain⟨z,hz⟩:∃ z,z=ps[i]:=⟨_,rfl⟩;have co:z∈ps:=by rw[hz];exact List.getElem_mem li
   have er:z.2∈BB v:=by rw[c0];exact List.mem_map_of_mem co
   have ba:GrN (λk=>NB k∨k=mb) ay aj:=a5.mono λk _ o=>.inr o;have bh:=Vs d4 ba λh0 ad e=>ea (by have:=d4.1;omega) ad e;have cv:=(bw z co).2.gr ba;have bc:∀ j u,z.1[j]?=some u->aj.cell? ((adr GA (i*3)).add j)=some u:=λj u hu=>by
    have hj:j<3:=by have:=(List.getElem?_eq_some_iff.1 hu).1;have:=(bw z co).1;omega
    rw[Xt];refine bh.cell ?_;rw[Iu (p:=z) (λp hp=>(bw p hp).1) (by rw[hz];exact gE li) hj];exact hu
   obtain⟨kv,zq,ff,ep,eo⟩:=id cv;obtain⟨zp,rfl⟩:=eo.ptr;have bb:=hfit v lv z.2 er;obtain⟨em,d9,rfl,fn,fl,dl,_⟩:=id ep;rw[ff]at bc;have cp:Ext w aj:=a5.old c3 λk o=>by rw[o];have:=a1.size;omega
   have d6:=Jy bm a5 du;have e0:=Ja r3 a5 λg U e=>ai (by rw[<-e];exact cy g U);refine Qs 3 i bh li ?_;refine Jt (cs:=[.slice em z.2.1.length d9,.bool d,.pointer zp]) bc ?_;refine Jb Jcz ?_;intro fu g3 db dw ej;refine Qb (cs':=[.slice em z.2.1.length d9,.bool d,.pointer zp]) ej ?_ (Jbh rfl);intro bp d8 fo da;have bq:Ext aj bp:=da aj db dw;have az:Ext bp bp.drew:=(Ext.refl bp).drew;have a6:=bq.trans az;have cd:=Rd.own (Jk e0 a6);refine ρ ?_;refine drN (λ_=>False) 10 [(0,0),(0,1),(0,2),(0,3),(0,4),(0,5),(0,6),(0,8),(1,7),(2,9)] kr ?_;refine ρn ?_;refine nld (Js ((d6.ext a6).at (i:=3) rfl) (λe=>e)) ?_;refine ρn ?_;refine nix v cd lv ?_;refine ρn ?_;refine nld (Js (cd.cell (show(J.set v (.map (some mb)))[v]?=some (.map (some mb)) by rw[List.getElem?_set_self om])) (λe=>e)) ?_;refine ρn ?_;refine nld (Js ((d8.ext az).at (i:=0) rfl) (λe=>e)) ?_
   refine ρn ?_;refine nop ?_;refine cl (Jzq (r:=z.2.1) (hTB.ext (cp.trans a6)) (dl.ext a6) (λu hu=>(bb.2 u hu).1) (by have:=bb.len;omega) (by have:=bb.1;omega)) ?_;rintro un ft ⟨rfl,b2⟩;refine ρ ?_;refine Je (GrN.ext b2) ?_;refine ρn ?_;refine Xh ?_;refine mup KS ((cg.ext a6).ext b2) (by unfold maxLen;omega) (Kj bb) ?_;intro en e7 dn;have bs:GrN (λk=>k=mb) aj en:=(GrN.ext (a6.trans b2)).trans (GrN.by dn λk o=>by injection o with o;exact o.symm);refine ρ ?_;refine Xj (i+1) (mc+1) (upL fm (.string (idn z.2.1)) (some (.int .i64 (i:Int)))) sO ⟨li,a5.trans bs,e7,om,λk=>?_⟩ om;have el:(BB v).take (i+1)=(BB v).take i++[z.2]:=by
    rw[c0,List.take_succ_eq_append_getElem (by rw[List.length_map];exact li),List.getElem_map,hz]
   have ez:z.2.1 ∉ ((BB v).take i).map (·.1):=by
    have h1:=hlt v lv;rw[<-List.take_append_drop (i+1) (BB v),el,List.map_append,List.map_append]at h1;intro hm;have h2:=(List.pairwise_append.1 (List.pairwise_append.1 h1).1).2.2 _ hm z.2.1 (by simp);rw[Uq]at h2;omega
   rw[el,Qtm _ _ _ ez];have di:((BB v).take i).length=i:=by rw[List.length_take];omega
   by_cases e:z.2.1=k
   .rw[if_pos e,<-e,Kw (KS.key (Kj bb)),di];rfl
   rw[if_neg e,Uh (λe'=>e (Jcb (by injection e'.symm)))];exact cr k
  have f2:i=ps.length:=by have:=oF h;omega
  clear h;have cq:(BB v).take i=BB v:=by rw[f2,dj,List.take_length]
  rw[cq]at cr;have dm:GrN N w8 aj:=by
   refine((ap.mono λk _ o=>(.inl o:N k∨k=mb)).trans (a5.mono λk _ o=>.inr o)).mono λk o h=>?_;rcases h with h|h
   .exact h
   omega
  have de:∀ u,u<v->(C.set v (.slice GA ps.length gc)).getD u (.slice none 0 0)=C.getD u (.slice none 0 0)/\(J.set v (.map (some mb))).getD u (.map none)=J.getD u (.map none):=λu hu=>by
   constructor<;>simp[List.getD,List.getElem?_set_ne (show v≠u by omega)]
  have dx:(C.set v (.slice GA ps.length gc)).getD v (.slice none 0 0)=.slice GA ps.length gc/\(J.set v (.map (some mb))).getD v (.map none)=.map (some mb):=by
   constructor
   .rw[List.getD,dk];rfl
   rw[List.getD,List.getElem?_set_self om];rfl
  have fa:DnB (λk=>NB k∨k=mb) d ay (.slice GA ps.length gc) (BB v):=⟨ps,GA,gc,c0,rfl,f3,df,d4,ea,bw⟩;refine ρ ?_;refine Xj (v+1) (C.set v (.slice GA ps.length gc)) (J.set v (.map (some mb))) sO ⟨lv,a2.trans dm,Ja bg a5 λg U e=>ai (by rw[<-e];exact e5 g U),Ja r3 a5 λg U e=>ai (by rw[<-e];exact cy g U),λu hu=>?_⟩ om;by_cases e:u=v
  .subst e;rw[dx.1,dx.2,<-hd];refine⟨(fa.gr (a5.mono λk _ o=>.inr o)).old λk o=>.inl (.inl o),mb,mc,fm,rfl,om,⟨cg,cz⟩,cr⟩
  obtain⟨e1,e2⟩:=de u om;rw[e1,e2];exact(dz u om).gr (af dm)
 have ey:v=f:=by have:=oF h;omega
 clear h;subst ey;refine Qy ax ?_;refine ρ ?_;have e4:¬ N b8:=λo=>by have:=(au _ o).1;omega
 have eh:=Jy ei a2 e4;refine stW eh ?_;intro w9 ef b7 fh;have b6:GrN (λk=>k=b8) w8 w9:=GrN.by b7 λk o=>by injection o with o;exact o.symm
 have c4:Ext w w9:=b6.old a1 λk o=>by rw[o];exact dv
 have fq:b8<w1.heap.size:=d7.lt;have ce:∀ k,NB k->k<w1.heap.size∨w5.heap.size<=k:=λk o=>by
  rw[bf]at o;rcases o with o|o|o
  .exact .inr (au k o).1
  .left;omega
  left;exact nM (hM k o) an.size
 have ek:∀ W,GrN M w9 W->IxV W (.agg #[.slice bn v c1,.slice bo v c2,.slice D v v,.slice G v v,.slice TA (Jq tot).length tc]) v ds kf pf BB tot:=λW hW=>by
  have b5:GrN (λk=>k=b8∨M k) w8 W:=(b6.mono λk _ o=>.inl o).trans (hW.mono λk _ o=>.inr o);have c7:GrN NB w8 W:=b5.mono λk _ o=>by rw[bf];exact .inr o
  have c8:GrN NB w7 W:=(af a2).trans c7;have fc:=Vs fb c8 λh0 ad e o=>by
   obtain⟨fg,e',hb,_⟩:=bi.2 h0;rw[e]at e';injection e' with e';subst e'
   have h1:=f4 ad e;have h2:w2.heap.size<=w5.heap.size:=(ak.trans a8).size;rcases ce _ o with h'|h'<;>omega
  have ed:=Vs ec c8 λh0 ad e o=>by
   obtain⟨fg,e',hb,_⟩:=cn.2 h0;rw[e]at e';injection e' with e';subst e'
   have h1:=f5 ad e;have h2:=am.size;rcases ce _ o with h'|h'<;>omega
  have fj:w1.heap.size<=w5.heap.size:=(am.trans (ak.trans a8)).size;have bv:=Ja d2 b5 λg U e=>by
   have h1:=(lK g U).1;rcases e with e|e
   .omega
   have:=hM g e;have:=an.size;omega
  have bd:=Ja cw b5 λg U e=>by
   have h1:=(lP g U).1;rcases e with e|e
   .omega
   have:=hM g e;have:=an.size;omega
  refine⟨⟨bn,c1,bo,c2,D,v,G,v,_,C,J,rfl,dq,dt,?_,ed,Rd.own bv,Rd.own bd,((htv.ext c4).gr hW).1,λu hu=>?_⟩,hdl,f32⟩
  .unfold RdB;rw[hdl];exact fc
  exact((dz u hu).gr c7).none
 refine ρ ?_;exact Kx ef ⟨λW hW=>ek W hW,ek w9 (GrN.refl _ _),c4⟩
end Go.Proofs.YtgobkbeokaaplaaGreatDoor
namespace Go.Wk
open Go.RowKit
variable {c d e m n t ty:Nat}
theorem nslh{N:Nat->Prop}{P:Program}{al:AL}{w:World}{Q:Exit->Act->World->Prop}{ops:Array Oper}{drest:List (Nat×Oper)}{pos:String}{aft:Array Edge}{tt:TT}[hT:Tab P tt]{x y:Operand}{k:TK}{A:Option Addr}{kd:IntKind}{z:Int}(h:Nat)(kk:WN N P n ops Q drest ((d,.slice A h c)::al) w)(h2:h<=c)(ht:tk tt t=some k:=by rfl)(hk:k.desc=.slice e:=by rfl)(hx:ev al x=some (.slice A m c):=by rfl)(hy:ev al y=some (.int kd z):=by rfl)(hz:z=(h:Int):=by first|rfl|omega)(hd:Nat.blt d n=true:=by rfl):
  WN N P n ops Q ((0,⟨some d,.slice t x none (some y) none,ty,pos,aft,none⟩)::drest) al w:=by
 obtain⟨i,j⟩:=Iv hT.ok ht hk rfl;refine ny_ (λw' _ a o=>?_) hd kk;have:=Jsj (ty:=ty) (pos:=pos) (aft:=aft) (P:=P) (w:=w') (lo:=none) (hi:=some y) (mx:=none) (l:=0) (h:=h) (q:=c) (dst:=some d) o i j hx rfl ⟨kd,z,hy,hz⟩ rfl (.inl rfl) (Nat.zero_le _) h2 (nR _);rw[cut0]at this;simpa using this
end Go.Wk
namespace Go.Proofs.YtgobkbeokaaplaaGreatDoor
open Go.RowKit Pl Go.Wk
attribute [local irreducible] WC WL QX WD WDB WP WN WG
variable {ds:List Bool}{l perm:List Nat}{ts:List TA}{B0 c f m n s u v:Nat}{pf:Nat->Int}{vars:Nat->List Nat}{R rs:Nat->List Row}{w:World}
def Us(e:Nat)(l:List Nat): Nat:=l.foldl (λe v=>e ||| 2^v) e
def Qm(l:List Nat): Nat:=Us 0 l
theorem Qzg: ∀(l:List Nat) (e u:Nat),(Us e l).testBit u=true↔e.testBit u=true∨u∈l
 | [],e,u=>by simp[Us]
 | v::l,e,u=>by
  have:=Qzg l (e ||| 2^v) u;rw[show Us e (v::l)=Us (e ||| 2^v) l from rfl,this,Nat.testBit_or,Nat.testBit_two_pow,Bool.or_eq_true,decide_eq_true_eq,List.mem_cons];grind
theorem edgeOf_bit: (Qm l).testBit u=true↔u∈l:=by rw[Qm,Qzg];simp
theorem Jzw(h:∀ v∈l,v<n): Qm l<2^n:=by
 refine Nat.lt_pow_two_of_testBit _ λi hi=>?_;cases hb:(Qm l).testBit i with
 | false=>rfl
 | true=>have:=h i (edgeOf_bit.1 hb);omega
theorem Qzf(e:Nat)(l:List Nat)(v:Nat): Us e (l++[v])=Us e l ||| 2^v:=by simp[Us]
def Vy(m:Nat)(vars:Nat->List Nat): List Nat:=(List.range m).map λi=>Qm (vars i)
structure BldI(n f:Nat)(ds:List Bool)(perm:List Nat)(ts:List TA)(vars:Nat->List Nat)(rs:Nat->List Row): Prop where
 run:RunOk n ts vars rs
 pm:PermOk n f perm
 dl:ds.length=f
 ok:∀ i,i<ts.length->∀ r∈rs i,∀ u∈r,Xg u=true/\Zr u
 cap:∀ kf pf,Jvz n (Vy ts.length vars) (Xd perm f) kf pf->∀ v,v<n->(∀ l:List Row,Lt [] l->(∀ x∈l,∃ z:Row,z.length=n/\x=pmR (bk (kf v ||| 2^v) 32) z/\Ij ts.length vars rs (kf v ||| 2^v) z)->l.length<=65536) /\
  ∀ i,i<ts.length->(rs i).length<=12∨Srt [] ((rs i).map (pmR (Qu (vars i) (kf v ||| 2^v))))
def BldV(w:World)(v:Value)(n f:Nat)(ds:List Bool)(perm:List Nat)(ts:List TA): Prop:=∃ DA dc PA pc AA ac,v=.agg #[.int .i64 (n:Int),.int .i64 (f:Int),.slice DA f dc,.slice PA perm.length pc,.slice AA ts.length ac]/\f<=dc/\RdB w DA ds/\Rd w 1 PA perm.length (Jp (nz perm))/\perm.length<=pc /\
 Rd w 3 AA ts.length (atC ts)/\ts.length<=ac/\∀ p∈ts,AtV w p.1 p.2
theorem BldV.ext{w w':World}{v:Value}{n f:Nat}{ds:List Bool}{perm:List Nat}{ts:List TA}(h:BldV w v n f ds perm ts)(hx:Ext w w'): BldV w' v n f ds perm ts:=by
 obtain⟨DA,U,PA,pc,AA,Z,O,J,G,D,C,u,o,j⟩:=h;exact⟨DA,U,PA,pc,AA,Z,O,J,Rd.ext G hx,D.ext hx,C,u.ext hx,o,λp i=>(j p i).ext hx⟩
section
variable {n f:Nat} {ds:List Bool} {perm:List Nat} {ts:List TA} {vars:Nat->List Nat} {rs:Nat->List Row}
theorem BldI.inp(h:BldI n f ds perm ts vars rs){v:Value}(hv:BldV w v n f ds perm ts): InV w v ⟨n,f,ds,nz perm,ts.map (·.2)⟩/\Jjf ⟨n,f,ds,nz perm,ts.map (·.2)⟩:=by
 obtain⟨DA,dc,PA,pc,AA,ac,rfl,h2,h3,Z,U,O,J,G⟩:=hv;have hn:=h.run.n32;have hm:=h.run.m32;have C:=h.pm.len;have D:=h.pm.fn;have i:=h.dl;subst i;constructor
 .exact⟨_,rfl,_,_,_,rfl,⟨DA,dc,rfl,h2,by simp only;omega,h3⟩,⟨PA,pc,by rw[Qg],by rw[Qg];exact U,by rw[Qg];omega,by rw[Qg];exact Z⟩,⟨ts,AA,ac,rfl,rfl,J,om,O,G⟩⟩
 refine⟨by simp only;omega,by simp only;omega,by simp only;omega,by simp only;omega,rfl,by grind [Qg],λv hv=>?_,?_,Jfm h.run⟩
 .obtain⟨u,o,rfl⟩:=List.mem_map.1 hv;have:=h.pm.rng u o;simp only;omega
 exact List.Pairwise.map _ (λa b j e=>j om) h.pm.nd
theorem BldI.es(h:BldI n f ds perm ts vars rs): (Vy ts.length vars).length=ts.length/\(∀ i,i<ts.length->∀ u,((Vy ts.length vars).getD i 0).testBit u=true↔u∈vars i)/\∀ e∈Vy ts.length vars,e<2^n:=by
 refine⟨by simp[Vy],λi hi u=>?_,λe j=>?_⟩
 .grind [Vy,Qm,List.getD,edgeOf_bit]
 obtain⟨i,hi,rfl⟩:=List.mem_map.1 j;exact Jzw (h.run.lt i (List.mem_range.1 hi))
theorem BldI.elr(h:BldI n f ds perm ts vars rs){kf:Nat->Nat}(hb:Jvz n (Vy ts.length vars) (Xd perm f) kf pf)(hR:∀ v,v<n->Jct n ts.length vars rs (kf v ||| 2^v) (R v)): ElR n f ts.length (Vy ts.length vars) perm vars rs kf pf R :=
 ⟨h.pm,h.run.n32,h.run.lt,h.run.len,h.es.1,h.es.2.1,h.es.2.2,hb,hR⟩
theorem Qcb{v:V}(h:Xg v=true): v.bytes.length<=24:=by
 unfold Xg at h;grind
theorem BldI.fit(h:BldI n f ds perm ts vars rs)(hs:s<2^n){z:Row}(hb:Ij ts.length vars rs s z): FitR (pmR (bk s 32) z)/\∀ u∈pmR (bk s 32) z,Xg u=true:=by
 have key:∀ u∈pmR (bk s 32) z,Xg u=true/\Zr u:=λu o=>by
  obtain⟨c,hc,rfl⟩:=List.mem_map.1 o;have C:=(bk_mem.1 hc).2;have D:=Jkg hs C;obtain⟨i,hi,hm⟩:=h.run.cov c D;obtain⟨j,J,e⟩:=List.getElem_of_mem hm;obtain⟨r,G,h1⟩:=hb i hi;have U:(vars i).getD j 0=c:=by rw[Qq 0 _ J,e]
  have O:=h1 j J (by rw[U];exact C);rw[U]at O;rw[<-O];have Z:=h.run.len i hi r G;exact h.ok i hi r G _ (getD_mem' V0 r om)
 exact⟨⟨by grind [Qf,Ux],λu o=>⟨(key u o).2,Qcb (key u o).1⟩⟩,λu o=>(key u o).1⟩
end
theorem ElR.sb{es:List Nat}{kf:Nat->Nat}(h:ElR n f m es perm vars rs kf pf R)(hv:v<n): kf v ||| 2^v<2^n:=by
 refine Nat.lt_pow_two_of_testBit _ λi hi=>?_;cases hb:(kf v ||| 2^v).testBit i with
 | false=>rfl
 | true=>
  rw[Nat.testBit_or,Nat.testBit_two_pow,Bool.or_eq_true,decide_eq_true_eq]at hb;rcases hb with hb|hb
  .have:=(h.kbit hv hb).1;omega
  omega
theorem Qww{kf:Nat->Nat}(h:BldI n f ds perm ts vars rs)(hb:Jvz n (Vy ts.length vars) (Xd perm f) kf pf)(hv:v<n): kf v ||| 2^v<2^n:=by
 refine Nat.lt_pow_two_of_testBit _ λi hi=>?_;cases hbt:(kf v ||| 2^v).testBit i with
 | false=>rfl
 | true=>
  rw[Nat.testBit_or,Nat.testBit_two_pow,Bool.or_eq_true,decide_eq_true_eq]at hbt;rcases hbt with hbt|hbt
  .rw[(hb v hv).2.1]at hbt;have:=Jbt (nb:=nb0 n (Vy ts.length vars)) (ord:=Xd perm f) (N:=n) (λa b j=>(Jzh h.es.2.2 j).2.1) hbt;omega
  omega
noncomputable def BBo(n f:Nat)(kf:Nat->Nat)(pf:Nat->Int)(R:Nat->List Row)(ds:List Bool)(pl:Nat->Nat)(v:Nat): List BkT:=Ve (ds.getD v false) (λx=>wtL (TV n f kf pf R ds pl) x (chK kf pf v n)) (lastC kf v) (R v)
theorem EVm: ElT Tryz.prog 156 213 1 8 (.map none):=⟨Tryz.underlying156,info_parts kr,rfl,by decide⟩
theorem ETm: ElT Tryz.prog 157 221 1 8 (.map none):=⟨Tryz.underlying157,info_parts kr,rfl,by decide⟩
theorem EU32s: ElT Tryz.prog 44 64 1 4 (.int .u32 0):=⟨Tryz.underlying44,info_parts kr,rfl,by decide⟩
theorem Xzh(z:Int)(w:World): (Instr.buildSlice 44 1 #[(0,.int .u32 z)]).run Tryz.prog w=.ok (.slice (some ⟨w.heap.size,0,none⟩) 1 1) (w.alloc (.cells [.int .u32 z].toArray 64)):=kr
theorem Qyp: Qt Tryz.prog 151=some (.agg #[.int .i64 0,.slice none 0 0]):=kr
theorem Xkn(z:Int)(w:World): (Instr.build 151 #[(0,.int .i64 z)]).run Tryz.prog w=.ok (.agg #[.int .i64 z,.slice none 0 0]) w:=kr
theorem Qys: Qt Tryz.prog 159=some (.agg #[.int .i64 0,.int .i64 0,.slice none 0 0,.slice none 0 0,.slice none 0 0,.slice none 0 0,.slice none 0 0,.slice none 0 0,.slice none 0 0,.slice none 0 0]):=kr
theorem Xkr(n f:Int)(D P A B R:Option Addr)(dn dc pn pc an ac bn bc rn rc:Nat)(w:World): (Instr.build 159 #[(0,.agg #[.int .i64 n,.int .i64 f,.slice D dn dc,.slice P pn pc,.slice A an ac]),(1,.slice B bn bc),(2,.slice R rn rc)]).run Tryz.prog w=.ok (.agg #[.int .i64 n,.int .i64 f,.slice D dn dc,.slice P pn pc,.slice A an ac,.slice B bn bc,.slice R rn rc,.slice none 0 0,.slice none 0 0,.slice none 0 0]) w:=kr
theorem Xvg(a b:List Nat): Uc (a++b)=Uc a++Uc b:=by simp[Uc]
theorem Xwk{A:Option Addr}(hA:Rd w 3 A ts.length (atC ts))(hc:ts.length<=c)(hm:ts.length<=1100000)(he:∀ p∈ts,AtV w p.1 p.2): GV 3 AtG w (.slice A ts.length c) (ts.map (·.2)):=by
 refine⟨ts.map λt=>(t.1.cells,t.2),A,c,by simp,by rw[List.length_map],by grind,by grind,?_,λp i=>?_⟩
 .grind [List.length_map,Ql,atC,List.flatMap_map]
 obtain⟨t,ht,rfl⟩:=List.mem_map.1 i;exact⟨rfl,t.1,rfl,he t ht⟩
theorem Xjd{sz:Nat}{g : Nat → List Value}(h : ∀ i, i < n → (g i).length = sz)(hf : f ≤ n): (Qe n g).take (f * sz) = Qe f g := by
  induction n with
  | zero => have : f = 0 := by omega
            subst this; simp [Qe]
  | succ n ih =>
    have hl := Jvf (n := n) (fun i hi => h i om)
    by_cases e : f = n + 1
    . subst e
      rw [List.take_of_length_le]
      rw [Jvf h]; exact nR _
    repeat grind [Jqs,Nat.mul_le_mul_right]
theorem Jcv{es:List Nat}{kf:Nat->Nat}(h:ElR n f m es perm vars rs kf pf R)(hv:v<f):
  GInv (ds.getD v false) (λx=>wtL (TV n f kf pf R ds (plO perm f)) x (chK kf pf v n)) (lastC kf v) (R v) (BBo n f kf pf R ds (plO perm f) v):=Jvb (h.rlt hv) (h.rl hv)
theorem Qsj{v:Value}(hTB:TB B0 w)(hI:BldI n f ds perm ts vars rs)(hV:BldV w v n f ds perm ts):
  Ret Tryz.prog 22 [v] w λu w'=>Ext w w'/\∃(x:Value) (st:Int) (kf:Nat->Nat) (pf:Nat->Int) (R:Nat->List Row),u=.tuple #[x,.int .i64 st,.int .i64 0]/\ElR n f ts.length (Vy ts.length vars) perm vars rs kf pf R /\
   Off (λk=>k<w.heap.size) w' λW=>IxV W x f ds kf pf (λu=>if Yx n pf (TV n f kf pf R ds (plO perm f)) (ts.map (·.2))=0 then[] else BBo n f kf pf R ds (plO perm f) u) (Yx n pf (TV n f kf pf R ds (plO perm f)) (ts.map (·.2))):=by
 obtain⟨g3,fq⟩:=hI.inp hV;obtain⟨DA,dc,PA,pc,AA,ac,rfl,iq,hD,hP,ik,hA,ft,f6⟩:=id hV;have bp:=hI.run.n32;have i5:=hI.run.m32;have ch:=hI.pm.fn;have ij:=hI.pm.len;have fp:=hI.dl;refine enE Tryz.func22 Tryz.ntmps22 ?_;refine bxR ?_;intro w1 b1 eh iw f4;refine Jb Jxd ?_;intro w2 b2 d5 gy ga;refine Qy (f4.ext d5) ?_;refine clR (Qxj (g3.ext (eh.trans d5)) (by simp only;omega) (by simp only;omega)) ?_;rintro u w3 ⟨d4,e,rfl,he⟩;have gu:e=0:=he.2 fq;subst gu;refine ρ ?_;have cw:=(f4.ext d5).ext d4;refine ld (cw.at (i:=0) rfl) ?_;refine Xo (Xkn _ _) ?_;refine Jb Qyp ?_;intro w4 b6 gi fr c0;refine Xa c0 ?_;intro w5 g9 ip gh;have dk:Ext w3 w5:=gh w3 gi fr;have dn:Ext w w3:=(eh.trans d5).trans d4;refine ldR ((cw.ext dk).at (i:=4) rfl) ?_;refine ρ ?_;refine Jo (fun (i:Nat) (vl:Value)=>[(1,.pointer (some ⟨b1,0,none⟩)),(2,.pointer (some ⟨b2,0,none⟩)),(3,.int .i64 0),(4,.int .i64 0),(6,.pointer (some ⟨b6,0,none⟩)),(34,.slice AA ts.length ac),(35,.int .i64 (ts.length:Int)),(36,.int .i64 (i:Int))])
  (λi vl w'=>i<=ts.length/\Ext w3 w'/\Blk w' b6 151 [.int .i64 (n:Int),vl]/\w'.ownsRow w3.heap.size 64 1 vl i (Uc ((Vy ts.length vars).take i))) (λi _=>ts.length-i) 0 (.slice none 0 0) sB
  ⟨Nat.zero_le _,dk,g9,by rw[List.take_zero];exact Zc _ _ _ _⟩ ?_
 rintro i vl w6 ⟨hi,ag,bt,bz⟩;obtain⟨EA,ec,rfl,fo,gt⟩:=Jv bz;refine ciR (λh=>?_) (λh=>?_)
 .have li:i<ts.length:=by have:=oT h;omega
  clear h;have ah:=dn.trans ag;have hp:=f6 _ (Jyq rfl li);have er:=hI.run.at_ i li;have dt:=hI.run.lt i li;generalize hq:ts.getD i ta0=q at hp er
  obtain⟨⟨t1,t2,t3⟩,a⟩:=q;simp only at er;subst er;obtain⟨⟨QA,qc,d1,fe,fd,el⟩,d0,d7⟩:=id hp;simp only at d1 d0;obtain⟨b7,PG,bc,hl,cz,_⟩:=id d7;simp only at cz;subst d1;subst d0;subst cz;have il:(vars i).length<=1100000:=by have:=fd;simpa [Qg] using this
  rw[Qg]at el fe;have ap:∀ j u,([.slice QA (nz (vars i)).length qc,.int .i64 ((vars i).length:Int),.slice PG b7.length bc]:List Value)[j]?=some u->w6.cell? ((adr AA (i*3)).add j)=some u:=λj u hu=>Gh ah (Jvr hA rfl li (by rw[hq];exact hu));rw[Qg]at ap;refine Qs 3 i (hA.ext ah) li ?_;refine Jt (cs:=[.slice QA (vars i).length qc,.int .i64 ((vars i).length:Int),.slice PG b7.length bc]) ap ?_;refine Jb Yn ?_;intro w7 b8 bw gx hh;refine Qb (cs':=[.slice QA (vars i).length qc,.int .i64 ((vars i).length:Int),.slice PG b7.length bc]) hh ?_ (Ic rfl);intro w8 g8 a4 be;have aw:Ext w6 w8:=be w6 bw gx;refine ldR (g8.at (i:=0) rfl) ?_;refine ρ ?_;have ff:=el.ext (ah.trans aw);refine Qv (fun (j:Nat)=>[(1,.pointer (some ⟨b1,0,none⟩)),(2,.pointer (some ⟨b2,0,none⟩)),(3,.int .i64 0),(4,.int .i64 0),(6,.pointer (some ⟨b6,0,none⟩)),(34,.slice AA ts.length ac),(35,.int .i64 (ts.length:Int)),(36,.int .i64 (i:Int)),(9,.int .u32 (Us 0 ((vars i).take j):Int)),(41,.slice QA (vars i).length qc),(42,.int .i64 ((vars i).length:Int)),(43,.int .i64 (j:Int))])
   (λj w'=>j<=(vars i).length/\w'=w8) (λj=>(vars i).length-j) 0 sB ⟨Nat.zero_le _,rfl⟩ ?_
  rintro j _ ⟨hj,rfl⟩;refine ciR (λh=>?_) (λh=>?_)
  .have lj:j<(vars i).length:=by have:=oT h;omega
   clear h;have ii:=dt _ (getD_mem' 0 (vars i) lj);refine ixR j ff lj ?_;refine ldR (ff.cell (show(Jp (nz (vars i)))[j]?=some (.int .i64 ((vars i).getD j 0:Int)) by simp[Jp,nz,List.getD,List.getElem?_eq_getElem lj])) ?_;refine ρ ?_;refine sl32 (v:=(vars i).getD j 0) om ?_;refine ρ ?_;have hs:Us 0 ((vars i).take j)<4294967296:=nM (Jzw (l:=(vars i).take j) λv hv=>dt v (List.mem_of_mem_take hv)) (Jxw bp);rw[Jxb hs (Kl om),<-Qzf,<-Qr 0 lj];refine ρ ?_;exact Qw (j+1) sO ⟨lj,rfl⟩ om
  have gq:j=(vars i).length:=by have:=oF h;omega
  clear h;rw[gq,List.take_length];have cq:=bt.ext aw;refine ldR (cq.at (i:=1) rfl) ?_;refine Qk (Xzh _) ?_;intro w9 b9 c5 iv hg;have dj:=ag.trans (aw.trans c5);refine ρ ?_;refine apb (m':=1) (news:=[.int .u32 (Us 0 (vars i):Int)]) EU32s (Jk bz (aw.trans c5)) (hg.rd (n:=1) rfl) (by simp[Value.oneCell']) (by unfold maxLen;omega) om dj.size ?_;intro ig b5 cd dx i4;have aq:Blk b5 b6 151 [.int .i64 (n:Int),.slice EA i ec]:=(cq.ext c5).grown dx ((cq.ext c5).ne_own (Jk bz (aw.trans c5)) rfl);obtain⟨di,df,rfl,_,i7⟩:=Jv cd;refine Xk (aq.at (i:=1) rfl) (aq.frozen 1) ?_;obtain⟨a3,bo⟩:∃ a3,a3=b5.setCell ⟨b6,1,none⟩ (.slice di (i+1) df):=⟨_,rfl⟩;rw[show b5.setCell ((⟨b6,0,none⟩:Addr).add 1) (.slice di (i+1) df)=a3 from bo.symm];have bq:GrN (λk=>k=b6) b5 a3:=by rw[bo];exact GrN.set _ rfl
  have ez:Blk a3 b6 151 [.int .i64 (n:Int),.slice di (i+1) df]:=by rw[bo];exact aq.set 1 _
  clear bo;have ef:Ext w3 b5:=Qh dj dx λg U=>(gt g U).1;refine ρ ?_;refine Jl (i+1) (.slice di (i+1) df) sO ⟨li,bq.old ef λk C=>by rw[C];exact fr,ez,?_⟩ om;have e1:(Vy ts.length vars).take (i+1)=(Vy ts.length vars).take i++[Us 0 (vars i)]:=by
   rw[Qr 0 (by simp[Vy];exact li)];congr 2
   simp[Vy,List.getD,li];rfl
  rw[e1,Xvg];exact Ja cd bq λg U e=>by rw[e]at U;exact aq.ne_own cd rfl U.symm
 have fi:i=ts.length:=by have:=oF h;omega
 clear h;have ai:=hI.es.1;rw[fi,List.take_of_length_le (by rw[ai];exact nR _)]at bz;rw[fi]at bt fo;have fl:=hI.es.2.2;obtain⟨es,fk⟩:∃ es,es=Vy ts.length vars:=⟨_,rfl⟩;rw[<-fk]at ai fl bz;have h8:GrV w6 EA ec n es:=⟨by rw[ai];exact Rd.own bz,by rw[ai];exact fo,bp,by rw[ai];omega,fl⟩;rw[<-ai]at bt;have cv:=cw.ext ag;have ah:=dn.trans ag;refine Qy bt ?_;refine ldR (cv.at (i:=1) rfl) ?_;refine ldR (cv.at (i:=3) rfl) ?_;refine clR (Xjt (pc:=pc) h8 hI.pm (hP.ext ah)) ?_;rintro u w7 ⟨bw,BA,kf,pf,rfl,gm,bi⟩;rw[fk]at bi;refine ρ ?_;have c9:=ah.trans bw;have cr:=cv.ext bw;refine ld (cr.at (i:=0) rfl) ?_;refine ldR (cr.at (i:=4) rfl) ?_;refine ρ ?_;have fh:∀ v,v<n->kf v<4294967296:=λv hv=>(bi v hv).1;have g7:=Rd.own gm;refine cl (Xwg (vars:=vars) (rs:=rs) bp (λv hv=>⟨hI.run,Qww hI bi hv,λi hi r hr=>List.all_eq_true.2 λu hu=>(hI.ok i hi r hr u hu).1,(hI.cap kf pf bi v hv).2⟩) (hA.ext c9) ft (λp hp=>(f6 p hp).ext c9) g7 fh (λv hv=>(hI.cap kf pf bi v hv).1)) ?_
 rintro u w8 ⟨be,va,gg,R,rfl,fg,cp⟩;have a2:=hI.elr bi cp;have e6:=fg.here;have cm:=e6;have fa:=c9.trans be;obtain⟨RA,rc,ih,rfl,gl,gk,fy,gz⟩:=e6.parts;rw[List.length_map,List.length_range]at gl gk fy cm ⊢;refine ρ ?_;refine Jo (fun (k:Nat) (st:Int)=>[(1,.pointer (some ⟨b1,0,none⟩)),(2,.pointer (some ⟨b2,0,none⟩)),(12,.slice BA n n),(14,.slice RA n rc),(15,.int .i64 st),(86,.slice RA n rc),(87,.int .i64 (n:Int)),(88,.int .i64 (k:Int))])
  (λk st w'=>k<=n/\Ext w8 w') (λk _=>n-k) 0 gg sB ⟨Nat.zero_le _,Ext.refl _⟩ ?_
 rintro k st w9 ⟨C,Z⟩;refine ciR (λh=>?_) (λh=>?_)
 .have lk:k<n:=by have:=oT h;omega
  clear h;obtain⟨ce,ir,⟨⟨t1,t2,t3⟩,rfl,f5⟩,ap⟩:=gz k (by simpa using lk);simp only[List.getElem_map,List.getElem_range]at f5;obtain⟨⟨QA,qc,d1,fe,fd,el⟩,d0,d8⟩:=id f5;simp only at d1 d0;obtain⟨b7,PG,bc,hl,cz,_⟩:=id d8;simp only at cz;subst d1;subst d0;subst cz;refine Qs 3 k (fy.ext Z) lk ?_;refine Jt (cs:=[.slice QA (Yl (kf k ||| 2^k) (R k)).vars.length qc,.int .i64 ((Yl (kf k ||| 2^k) (R k)).ar:Int),.slice PG b7.length bc]) (λj u hu=>Gh Z (ap j u hu)) ?_;refine Jb Yn ?_;intro b5 bb c8 gw hd;refine Qb (cs':=[.slice QA (Yl (kf k ||| 2^k) (R k)).vars.length qc,.int .i64 ((Yl (kf k ||| 2^k) (R k)).ar:Int),.slice PG b7.length bc]) hd ?_ (Ic rfl);intro a3 ey bq c7;have ao:Ext w9 a3:=c7 w9 c8 gw;refine Jt (cs:=[.int .i64 ((Yl (kf k ||| 2^k) (R k)).ar:Int),.slice PG b7.length bc]) (λj u hu=>ey.sub (i:=1) (j:=j) (by rw[Nat.add_comm];exact hu)) ?_;refine clR (Jwf (f5.ext (Z.trans ao)).rel) ?_
  rintro u an ⟨rfl,G⟩;obtain⟨ed,fc⟩:∃ ed:Int,ed=IntKind.i64.wrap (st+((Yl (kf k ||| 2^k) (R k)).rows.length:Int)):=⟨_,rfl⟩;refine ρ ?_;rw[<-fc];refine ρ ?_;exact Jl (k+1) ed sO ⟨lk,(Z.trans ao).trans G⟩ om
 have im:k=n:=by have:=oF h;omega
 clear h;have a1:=fa.trans Z;have a9:=(cr.ext be).ext Z;refine Qy a9 ?_;refine Xo (Xkr _ _ _ _ _ _ _ _ _ _ _ _ _ _ _ _ _ _) ?_;refine Jb Qys ?_;intro b5 o c8 az gb;refine Xa gb ?_;intro a3 de bq c7;have ao:Ext w9 a3:=c7 w9 c8 az;have bh:∀ v,v<n->∀ x∈R v,(x.length=(bk (kf v ||| 2^v) 32).length/\FitR x)/\∀ u∈x,Xg u=true:=λv hv x hx=>by
  obtain⟨z,_,rfl,hb⟩:=((cp v hv).2.1 x).1 hx;have:=hI.fit (Qww hI bi hv) hb;exact⟨⟨Qf _ _,this.1⟩,this.2⟩
 have hF:FixW B0 n f kf pf R (.slice RA n rc) BA w9:=⟨hTB.ext a1,g7.ext (be.trans Z),cm.ext Z λcs a h=>Jmr h Z,bp,ch,fh,λc O e=>by have:=(a2.chf c c O e).2;omega,λv hv x hx=>(bh v hv x hx).1,λv hv=>(cp v hv).2.2⟩;have f8:Ext a3 a3.drew:=(Ext.refl a3).drew;have bj:=ao.trans f8;have e9:=(a9.ext bj);have ew:=de.ext f8;have dq:¬ b1=o:=λe=>by have:=a9.lt;omega
 refine ρ ?_;refine drM (λk=>k=o) ?_;refine Gb (fuel':=6) [(0,0),(0,1),(0,3),(0,4)] #[true,true,false,true,true,false,false,false,false,false] kr kr rfl ?_;refine ρn ?_;refine nld (Js (e9.at (i:=0) rfl) dq) ?_;refine ρn ?_;refine nld (Js (e9.at (i:=0) rfl) dq) ?_;refine ρn ?_;refine Gc ?_;refine mcut 2 (lst 10 8) (fun (y:Option Addr×Option Addr)=>[(107,.slice y.2 n n),(1,.pointer (some ⟨b1,0,none⟩)),(2,.pointer (some ⟨b2,0,none⟩)),(12,.slice BA n n),(15,.int .i64 st),(18,.pointer (some ⟨o,0,none⟩))])
  (λy W=>GrN (λk=>k=o) a3.drew W/\Blk W o 159 [.int .i64 (n:Int),.int .i64 (f:Int),.slice DA f dc,.slice PA perm.length pc,.slice AA ts.length ac,.slice BA n n,.slice RA n rc,.slice y.1 n n,.slice none 0 0,.slice none 0 0] /\
   W.ownsRow a3.drew.heap.size 213 1 (.slice y.1 n n) n (List.replicate n (.map none))/\W.ownsRow a3.drew.heap.size 221 1 (.slice y.2 n n) n (List.replicate n (.map none))) ?_ ?_
 rotate_left
 .intro rest;refine Jzk 2 5 kr rfl rfl rfl ?_ ?_
  .refine mkn EVm n om (by unfold maxLen;omega) ?_;intro an VA G a7 _;rw[Up _ rfl]at a7;refine Jf (Xr (GrN.ext G) ?_);refine Gb (fuel':=4) [(0,6)] #[true,true,true,true,true,false,true,false,false,false] kr kr rfl ?_;refine ρn ?_;refine Gc ?_;refine Jzk 5 7 kr rfl rfl rfl ?_ ?_
   .refine mkn ETm n om (by unfold maxLen;omega) ?_;intro aa TA D a8 _;rw[Up _ rfl]at a8;refine Jf (Xr (GrN.ext D) ?_);refine Yg 7 kr rfl rfl ?_;have af:=(ew.ext G).ext D;refine sto (af.at (i:=7) rfl) (af.frozen 7) ?_;have a4:GrN (λk=>k=o) aa (aa.setCell ⟨o,7,none⟩ (.slice VA n n)):=GrN.set _ rfl;refine Jf (Xr a4 ?_);refine Kp (listed':=lst 10 8) kr ?_;refine rest (VA,TA) _ _ ⟨(GrN.ext (G.trans D)).trans a4,af.set 7 _,Ja (Jk a7 D) a4 λg U e=>?_,Ja (a8.mono G.size) a4 λg U e=>?_⟩ sB
    .rw[e]at U;exact af.ne_own (Jk a7 D) rfl U.symm
    rw[e]at U;exact af.ne_own a8 rfl U.symm
   have c0:=ew.ext G;refine sto (c0.at (i:=7) rfl) (c0.frozen 7) ?_;have a4:GrN (λk=>k=o) an (an.setCell ⟨o,7,none⟩ (.slice VA n n)):=GrN.set _ rfl;refine Jf (Xr a4 ?_);refine Yg 5 kr rfl rfl ?_;refine mkn ETm n om (by unfold maxLen;omega) ?_;intro aa TA D a8 _;rw[Up _ rfl]at a8;refine Jf (Xr (GrN.ext D) ?_);refine Kp (listed':=lst 10 8) kr ?_;refine rest (VA,TA) _ _ ⟨((GrN.ext G).trans a4).trans (GrN.ext D),(c0.set 7 _).ext D,Jk (Ja a7 a4 λg U e=>?_) D,a8.mono (nL G.size a4.size)⟩ sB;rw[e]at U;exact c0.ne_own a7 rfl U.symm
  refine mkn ETm n om (by unfold maxLen;omega) ?_;intro an TA G ae _;rw[Up _ rfl]at ae;refine Jf (Xr (GrN.ext G) ?_);refine Yg 2 kr rfl rfl ?_;refine mkn EVm n om (by unfold maxLen;omega) ?_;intro aa VA D b4 _;rw[Up _ rfl]at b4;refine Jf (Xr (GrN.ext D) ?_);refine Gb (fuel':=3) [(0,6)] (lst 10 7) kr kr rfl ?_;refine ρn ?_;refine Gc ?_;refine Yg 7 kr rfl rfl ?_;have af:=(ew.ext G).ext D;refine sto (af.at (i:=7) rfl) (af.frozen 7) ?_;have a4:GrN (λk=>k=o) aa (aa.setCell ⟨o,7,none⟩ (.slice VA n n)):=GrN.set _ rfl;refine Jf (Xr a4 ?_);refine Kp (listed':=lst 10 8) kr ?_;refine rest (VA,TA) _ _ ⟨(GrN.ext (G.trans D)).trans a4,af.set 7 _,Ja (b4.mono G.size) a4 λg U e=>?_,Ja (Jk ae D) a4 λg U e=>?_⟩ sB
  .rw[e]at U;exact af.ne_own b4 rfl U.symm
  rw[e]at U;exact af.ne_own (Jk ae D) rfl U.symm
 rintro⟨VA,TA⟩ an ⟨d9,am,a7,ae⟩;simp only at am a7 ae;refine Gb (fuel':=1) [(0,8)] (lst 10 9) kr kr rfl ?_;refine ρn ?_;refine Gc ?_;refine Yg 9 kr rfl rfl ?_;refine sto (am.at (i:=8) rfl) (am.frozen 8) ?_;have ay:GrN (λk=>k=o) an (an.setCell ⟨o,8,none⟩ (.slice TA n n)):=GrN.set _ rfl;refine Jf (Xr ay ?_);refine mend kr ?_;obtain⟨aa,bn⟩:∃ aa,aa=an.setCell ⟨o,8,none⟩ (.slice TA n n):=⟨_,rfl⟩;have f3:Blk aa o 159 [.int .i64 (n:Int),.int .i64 (f:Int),.slice DA f dc,.slice PA perm.length pc,.slice AA ts.length ac,.slice BA n n,.slice RA n rc,.slice VA n n,.slice TA n n,.slice none 0 0]:=by rw[bn];exact am.set 8 _
 rw[<-bn]at ay;rw[show an.setCell ((⟨o,0,none⟩:Addr).add 8) (.slice (VA,TA).2 n n)=aa from bn.symm];clear bn;have b4:=Ja a7 ay λg U e=>by rw[e]at U;exact am.ne_own a7 rfl U.symm
 have a8:=Ja ae ay λg U e=>by rw[e]at U;exact am.ne_own ae rfl U.symm
 have bd:Ext w9 aa:=ay.old (d9.old bj λk C=>by rw[C];exact az) λk C=>by rw[C];exact az
 refine ldR ((a9.ext bd).at (i:=1) rfl) ?_;refine ρ ?_;refine mkn EBks f om (by unfold maxLen;omega) ?_;intro d2 KA bl e5 _;rw[Up _ rfl]at e5;refine ρ ?_;have bv:=f3.ext bl;refine sto (bv.at (i:=9) rfl) (bv.frozen 9) ?_;obtain⟨av,bm⟩:∃ av,av=d2.setCell ⟨o,9,none⟩ (.slice KA f f):=⟨_,rfl⟩;have dw:GrN (λk=>k=o) d2 av:=by rw[bm];exact GrN.set _ rfl
 have gc:Blk av o 159 (bCs n f (.slice DA f dc) (.slice PA perm.length pc) (.slice AA ts.length ac) BA n (.slice RA n rc) VA n TA n (.slice KA f f)):=by rw[bm];exact bv.set 9 _
 rw[show d2.setCell ((⟨o,0,none⟩:Addr).add 9) (.slice KA f f)=av from bm.symm];clear bm;have bf:∀ {t:Nat} {v:Value} {xs:List Value} {b m:Nat},d2.ownsRow b t 1 v m xs->Nat.beq t 159=false->av.ownsRow b t 1 v m xs:=λho gn=>Ja ho dw λg U e=>by rw[e]at U;exact bv.ne_own ho gn U.symm
 have c4:Ext w9 av:=dw.old (bd.trans bl) λk C=>by rw[C];exact az
 have fw:=bf ((Jk b4 bl).mono bj.size) rfl;have fx:=bf ((Jk a8 bl).mono bj.size) rfl;have g0:=bf (e5.mono bd.size) rfl;have fu:BldW w9 o n (bCs n f (.slice DA f dc) (.slice PA perm.length pc) (.slice AA ts.length ac) BA n (.slice RA n rc) VA n TA n (.slice KA f f)) VA n TA n av (List.replicate n (.map none)) (List.replicate n (.map none)):=⟨c4,gc,fw,fx⟩;obtain⟨T,hT⟩:∃ T,T=TV n f kf pf R ds (plO perm f):=⟨_,rfl⟩;have eu:∀ c,f<=c->∀ k,T c k<=1:=λc O k=>by rw[hT];exact Jmx a2.chf c O k
 have et:∀ c k,T c k<=4294967296^20:=λc k=>by rw[hT];exact a2.big c k
 have f2:=a9.ext c4;refine ldR (f2.at (i:=3) rfl) ?_;have iy:(Value.slice KA f f)=Value.slice KA f f:=rfl;obtain⟨AR,f7⟩:∃ AR:Nat->Prop,AR=λk=>ARk n f VA n TA n (.slice KA f f) k∨k=b2∨k<w.heap.size:=⟨_,rfl⟩;have cy:∀ k,ARk n f VA n TA n (.slice KA f f) k->AR k:=λk C=>by rw[f7];exact .inl C
 have dz:b2<w9.heap.size:=nM ga.lt (d4.trans (ag.trans (bw.trans (be.trans Z)))).size;have cx:∀(W:World) (va ta ba:List Value),Ext w9 W->W.ownsRow w9.heap.size 213 1 (.slice VA n n) n va->W.ownsRow w9.heap.size 221 1 (.slice TA n n) n ta->W.ownsRow w9.heap.size 72 1 (.slice KA f f) f ba->∀ k,AR k->k<W.heap.size:=λW va ta ba f9 hv ht hb k C=>by
  rw[f7]at C;rcases C with(C|C|C)|C|C
  .exact((Jv hv).choose_spec.choose_spec.2.2 k C).2
  .exact((Jv ht).choose_spec.choose_spec.2.2 k C).2
  .exact((Jv hb).choose_spec.choose_spec.2.2 k C).2
  .rw[C];exact nM dz f9.size
  exact nM C (a1.trans f9).size
 have lV:∀ {W:World} {xs:List Value},W.ownsRow w9.heap.size 213 1 (.slice VA n n) n xs->∀ g,(Value.slice VA n n).ownBlock=some g->w9.heap.size<=g/\g<W.heap.size:=λho=>(Jv ho).choose_spec.choose_spec.2.2;have gd:∀ k,(Value.slice VA n n).ownBlock=some k->AR k:=λk C=>cy k (.inl C);refine ρ ?_;refine Jo (fun (i:Nat) (va:List Value)=>[(1,.pointer (some ⟨b1,0,none⟩)),(2,.pointer (some ⟨b2,0,none⟩)),(12,.slice BA n n),(15,.int .i64 st),(18,.pointer (some ⟨o,0,none⟩)),(115,.slice PA perm.length pc),(116,.int .i64 (perm.length:Int)),(117,.int .i64 (i:Int))])
  (λi va w'=>i<=perm.length/\BldW w9 o n (bCs n f (.slice DA f dc) (.slice PA perm.length pc) (.slice AA ts.length ac) BA n (.slice RA n rc) VA n TA n (.slice KA f f)) VA n TA n w' va (List.replicate n (.map none)) /\
   w'.ownsRow w9.heap.size 72 1 (.slice KA f f) f (List.replicate f (.slice none 0 0))/\∀ c,c<n->plO perm f c<i->f<=c->DnV AR (T c) w' (va.getD c (.map none))) (λi _=>perm.length-i) 0 _ sB
  ⟨Nat.zero_le _,fu,g0,λc O h=>om⟩ ?_
 rintro i va eb ⟨hi,a6,br,da⟩;have e4:Rd eb 1 PA perm.length (Jp (nz perm)):=hP.ext (a1.trans a6.ext);refine ciR (λh=>?_) (λh=>?_)
 .have li:i<perm.length:=by have:=oT h;omega
  clear h;obtain⟨v,hv⟩:∃ v,v=perm.getD i 0:=⟨_,rfl⟩;have d6:=hI.pm.rng v (by rw[hv];exact getD_mem' 0 perm li);have i2:plO perm f v=i:=by rw[hv];exact hI.pm.plPerm li
  refine ixR i e4 li ?_;refine ldR (e4.cell (show(Jp (nz perm))[i]?=some (.int .i64 (v:Int)) by rw[hv];simp[Jp,nz,List.getD,List.getElem?_eq_getElem li])) ?_;refine clR (Qhs (AR:=AR) hF a6 d6.2 (λc O hp hf=>?_) (λc O hp hf=>?_) eu et cy (cx _ _ _ _ a6.ext a6.va a6.ta br)) ?_
  .have:=(a2.chf c v O hp).2;exact da c O om hf
  .have h1:=(a2.chf c v O hp).2;have h2:=hI.pm.plLow hf d6.1 d6.2;omega
  rintro u c3 ⟨rfl,mv,J,dv,g6⟩;have en:GrN AR eb c3:=dv.mono λk _ C=>gd k C;have aj:=Ja br dv λg U e=>by
   have h1:=a6.va;rcases h1.2 with⟨h2,_⟩|⟨g1,c1,cu1,h2,_,h3,_⟩
   .rw[h2]at e;simp[Value.ownBlock]at e
   rcases br.2 with⟨h4,_⟩|⟨g2,c2,cu2,h4,_,h5,_⟩
   .rw[h4]at U;simp[Value.ownBlock]at U
   rw[h2]at e;rw[h4]at U;simp only[Value.ownBlock,Option.some.injEq]at e U;subst e;subst U;rw[h3]at h5;injection h5 with h5
   injection h5 with _ h6
   exact absurd h6 (by decide)
  refine ρ ?_;refine Jl (i+1) (va.set v mv) sO ⟨li,J,aj,λc O i3 hf=>?_⟩ om;have i0:va.length=n:=by have:=a6.va.1;omega
  by_cases e:c=v
  .subst e;rw[getD_set' (.map none) va c c mv om,if_pos rfl,hT,Jvw a2.chf O hf,<-hT];exact g6
  rw[getD_set' (.map none) va v c mv om,if_neg e];refine(da c O ?_ hf).gr en;rcases Nat.lt_or_ge (plO perm f c) i with h'|h'
  .exact h'
  exact absurd (hI.pm.inj O d6.2 om) e
 have i6:i=perm.length:=by have:=oF h;omega
 clear h;have ak:∀ c,c<n->f<=c->DnV AR (T c) eb (va.getD c (.map none)):=λc O hf=>da c O (by
  have hm:c∈perm:=by
   rcases List.mem_append.1 (hI.pm.omem.2 O) with h1|h1
   .exact h1
   have:=List.mem_range.1 (List.mem_reverse.1 h1);omega
  obtain⟨j,hj,e⟩:=List.getElem_of_mem hm;have:=hI.pm.plPerm hj;rw[Qq 0 _ hj,e]at this;omega) hf
 have dd:=a9.ext a6.ext;refine ldR (dd.at (i:=1) rfl) ?_;refine ρ ?_;refine Zq (fun (i:Nat) (ta ba:List Value)=>[(1,.pointer (some ⟨b1,0,none⟩)),(2,.pointer (some ⟨b2,0,none⟩)),(12,.slice BA n n),(15,.int .i64 st),(18,.pointer (some ⟨o,0,none⟩)),(125,.int .i64 (f:Int)),(126,.int .i64 (i:Int))])
  (λi ta ba w'=>i<=f/\BldW w9 o n (bCs n f (.slice DA f dc) (.slice PA perm.length pc) (.slice AA ts.length ac) BA n (.slice RA n rc) VA n TA n (.slice KA f f)) VA n TA n w' va ta /\
   w'.ownsRow w9.heap.size 72 1 (.slice KA f f) f ba/\(∀ c,c<n->f<=c->DnV AR (T c) w' (va.getD c (.map none))) /\
   ∀ c,c<f->f-i<=c->DnT AR (T c) w' (ta.getD c (.map none))/\DnB AR (ds.getD c false) w' (ba.getD c (.slice none 0 0)) (BBo n f kf pf R ds (plO perm f) c)) (λi _ _=>f-i) 0 _ _ sB
  ⟨Nat.zero_le _,a6,br,ak,λc O h=>om⟩ ?_
 clear da ak;rintro i ta ba c3 ⟨hi,J,aj,ak,bs⟩;have bu:=a9.ext J.ext;refine ciR (λh=>?_) (λh=>?_)
 .have li:i<f:=by have:=oT h;omega
  clear h;obtain⟨v,hv⟩:∃ v,v=f-1-i:=⟨_,rfl⟩;have ca:v<f:=om
  have gj:v<n:=om
  refine ldR (bu.at (i:=1) rfl) ?_;refine ρ ?_;refine Go.Wk.kv 133 (show Value.int .i64 ((f:Int)-1-(i:Int))=.int .i64 (v:Int) by congr 1;omega) ?_;refine cl (Qtw (v:=v) (AR:=AR) hF fp (Rd.ext hD a1) J aj ca (by rw[(a2.lastC ca).2];omega) (λx hx=>?_) (a2.rlt ca) (λc O hp hf=>ak c O hf) (λc O hp hf=>?_) eu et cy (cx _ _ _ _ J.ext J.va J.ta aj)) ?_
  .have h1:=bh v gj x hx;refine h1.2 _ (getD_mem' V0 x ?_);rw[h1.1.1,(a2.lastC ca).2];omega
  .have h1:=(a2.chf c v O hp).2;have h2:plO perm f c<plO perm f v:=h1;rw[hI.pm.plFree hf,hI.pm.plFree ca]at h2;exact(bs c hf om).1
  rintro u ea ⟨rfl,mv,lv,b3,ck,cg,g4,g5⟩;have eB:Ve (ds.getD v false) (λx=>wtL T x (chK kf pf v n)) ((bk (kf v ||| 2^v) 32).length-1) (R v)=BBo n f kf pf R ds (plO perm f) v:=by rw[hT];rfl
  rw[eB]at g4 g5;have i1:ta.length=n:=by have:=J.ta.1;omega
  have i8:ba.length=f:=by have:=aj.1;omega
  refine ρ ?_;refine Xj (i+1) (ta.set v mv) (ba.set v lv) sO ⟨li,b3,ck,λc O hf=>(ak c O hf).gr cg,λc O iu=>?_⟩ om;by_cases e:c=v
  .subst e;rw[getD_set' (.map none) ta c c mv om,if_pos rfl,getD_set' (.slice none 0 0) ba c c lv om,if_pos rfl];refine⟨?_,g5⟩;rw[hT,Jcq a2.chf ch O];exact g4
  rw[getD_set' (.map none) ta v c mv om,if_neg e,getD_set' (.slice none 0 0) ba v c lv om,if_neg e];have:=bs c O om;exact⟨this.1.gr cg,this.2.gr cg⟩
 have io:i=f:=by have:=oF h;omega
 clear h;have ek:∀ c,c<n->pf c = -1->f<=c->∀ k,0<T c k->k=[]:=λc O hp hf k C=>by
  rw[hT,Jvw a2.chf O hf,redT_pos]at C;obtain⟨x,_,_,e⟩:=C;have h1:∀ u,(kf c).testBit u=false:=by
   rcases a2.par O with⟨_,h1⟩|⟨p,h1,_⟩
   .exact h1
   rw[h1]at hp;omega
  have h2:Za kf c=[]:=by
   unfold Za Qu;refine List.filter_eq_nil_iff.2 λu _ hu=>?_;rw[h1]at hu;cases hu
  rw[h2]at e;exact e.symm
 have cn:∀ c,c<f->DnT AR (T c) c3 (ta.getD c (.map none))/\DnB AR (ds.getD c false) c3 (ba.getD c (.slice none 0 0)) (BBo n f kf pf R ds (plO perm f) c):=λc O=>bs c O om;clear bs;refine clR (Qcv (AR:=AR) hF J (Xwk (hA.ext a1) ft om λp hp=>(f6 p hp).ext a1) (λc O=>?_) (λc O hf=>ak c O hf) (λc O hf=>(cn c hf).1) ek eu et) ?_
 .rcases a2.par O with⟨h1,_⟩|⟨p,h1,_⟩
  .exact .inl h1
  exact .inr ⟨p,h1⟩
 rintro u ea ⟨ej,gs,ax⟩;have eo:b2<c3.heap.size:=nM dz J.ext.size;obtain⟨tot,cc⟩:∃ tot,tot=Yx n pf T (ts.map (·.2)):=⟨_,rfl⟩
 rw[<-cc]at ej;rw[hT]at cc;obtain⟨dg,d3,rfl,cb⟩:=Jhf ej;have fb:NatX (λk=>k=b2∨k<w.heap.size) ea (.slice dg (Jq tot).length d3) tot:=gs.x ej λk C=>by
  rcases C with C|C
  .rw[C];exact eo
  exact nM C (a1.trans J.ext).size
 have b3:=J.ext' ax;have ck:=Jk aj ax;refine ρ ?_;refine Zy (fun (y:Option Addr×List Value)=>[(1,.pointer (some ⟨b1,0,none⟩)),(2,.pointer (some ⟨b2,0,none⟩)),(12,.slice BA n n),(15,.int .i64 st),(18,.pointer (some ⟨o,0,none⟩)),(23,.slice dg (Jq tot).length d3)])
  (λy w'=>Ext w9 w'/\Blk w' o 159 (bCs n f (.slice DA f dc) (.slice PA perm.length pc) (.slice AA ts.length ac) BA n (.slice RA n rc) VA n TA n (.slice y.1 f f))/\Rd w' 1 y.1 f y.2/\NatX (λk=>k=b2∨k<w.heap.size) w' (.slice dg (Jq tot).length d3) tot /\
   ∀ c,c<f->DnB AR (ds.getD c false) w' (y.2.getD c (.slice none 0 0)) (if tot=0 then[] else BBo n f kf pf R ds (plO perm f) c)) ?_ ?_
 .refine ci (λh=>?_) (λh=>?_)
  .have h0:tot=0:=by
    have:=Zx h;rcases Nat.eq_zero_or_pos tot with h'|h'
    .exact h'
    have:=cb.2 h';omega
   clear h;have db:=bu.ext ax;refine ldR (db.at (i:=1) rfl) ?_;refine ρ ?_;refine mkn EBks f om (by unfold maxLen;omega) ?_;intro au dh dm cj _;rw[Up _ rfl]at cj;refine ρ ?_;have a5:=b3.blk.ext dm;refine sto (a5.at (i:=9) rfl) (a5.frozen 9) ?_;have du:GrN (λk=>k=o) au (au.setCell ⟨o,9,none⟩ (.slice dh f f)):=GrN.set _ rfl;have em:Ext ea (au.setCell ⟨o,9,none⟩ (.slice dh f f))∨True:=.inr trivial;clear em;refine ρ ?_;refine Jd (dh,List.replicate f (.slice none 0 0)) sB ⟨du.old ((J.ext.trans ax).trans dm) λk C=>by rw[C];exact az,a5.set 9 _,Rd.own (Ja cj du λg U e=>by rw[e]at U;exact a5.ne_own cj rfl U.symm),?_,λc O=>?_⟩
   .have e0:(Jq tot).length=0:=by rw[h0,limbs_0];rfl
    rw[e0,h0];exact⟨⟨dg,d3,by rw[limbs_0];rfl,by rw[limbs_0];simp,by rw[limbs_0];simp,by rw[limbs_0];exact Rd.nil⟩,λh=>absurd rfl h⟩
   rw[if_pos h0];have:(List.replicate f (Value.slice none 0 0)).getD c (.slice none 0 0)=.slice none 0 0:=by simp[List.getD,O]
   rw[this];exact DnB.nil _ _ _
  have h0:¬ tot=0:=λe=>by
   have h1:=Xu h;have h2:¬ 0<(Jq tot).length:=λh'=>by have:=cb.1 h';omega
   omega
  clear h;refine ρ ?_;refine Jd (KA,ba) sB ⟨b3.ext,b3.blk,Rd.own ck,fb,λc O=>?_⟩;rw[if_neg h0];exact(cn c O).2.ext ax
 rintro⟨dh,iz⟩ au ⟨ee,a5,e3,ei,co⟩;simp only at a5 e3 co;have ab:Ext au au.drew:=(Ext.refl au).drew;have ad:=ee.trans ab;have e8:=a9.ext ad;have ha:=a5.ext ab;have e2:¬ b1=b2:=λe=>by have:=f4.lt;omega
 have ep:¬ o=b2:=λe=>by omega
 have e7:=((ga.ext (d4.trans (ag.trans (bw.trans (be.trans Z))))).ext ad);refine ρ ?_;refine drM (λk=>k=b2) ?_;refine Gb (fuel':=0) [(0,0),(0,1),(0,2),(0,3),(0,4),(0,5),(0,6),(0,7),(0,8),(0,10),(1,9),(1,11),(0,12),(0,13)] (lst 14 14) kr kr rfl ?_;refine ρn ?_;refine nld (Js (e8.at (i:=2) rfl) e2) ?_;refine ρn ?_;refine nld (Js (e8.at (i:=1) rfl) e2) ?_;refine ρn ?_;refine nslh f ?_ ch;refine ρn ?_;refine nld (Js (ha.at (i:=9) rfl) ep) ?_;refine ρn ?_;have h9:Rd au.drew 3 BA f (Qe f (Qp kf pf)):=by
  have h1:=(hF.bags.ext ad).take ch;rw[Xjd (sz:=3) (g:=Qp kf pf) (λ_ _=>rfl) ch]at h1;exact h1
 refine nop ?_;refine cl (Xwm (M:=λk=>k=b2∨k<w.heap.size) (hTB.ext (a1.trans ad)) fp om (Rd.ext hD (a1.trans ad)) h9 (e3.ext ab) (λu hu=>((co u hu).old λk C=>.inl (by rw[f7];exact .inr C)).ext ab) (ei.ext ab) (λk C=>by
  rcases C with C|C
  .rw[C];exact e7.lt
  exact nM C (a1.trans ad).size) (λu hu b hb=>?_) (λu hu=>?_)) ?_
 .split at hb
  .cases hb
  obtain⟨y,hy,e1,_⟩:=entL_ne.1 ((Jcv a2 hu).con b hb).2;have h1:=(bh u om y hy).1.2;rw[<-e1];exact⟨by have:=h1.1;rw[List.length_take];omega,λz hz=>h1.2 z (List.mem_of_mem_take hz)⟩
 .split
  .exact List.Pairwise.nil
  exact(Jcv a2 hu).lt
 rintro xi gf ⟨fz,h7,c6⟩;obtain⟨xD,ia,xB,ie,xK,ic,xP,ib,xt,_,_,rfl,_,_,_,_,_,_,⟨xT,i9,rfl,_⟩,_⟩:=h7.ex;refine ρ ?_;refine Je (GrN.ext c6) ?_;refine ρn ?_;refine nop ?_;refine stW (e7.ext c6) ?_;intro ge f0 fj hw;have bg:GrN (λk=>k=b2) gf ge:=GrN.by fj λk C=>by injection C with C;exact C.symm
 refine ρ ?_;refine Je bg ?_;refine ρn ?_;refine Gc ?_;refine mend kr ?_;refine ρ ?_;refine Qxx f0 ⟨bg.old ((a1.trans ad).trans c6) λk C=>by rw[C];exact nL eh.size gy,_,st,kf,pf,R,rfl,a2,?_⟩;rw[<-cc];exact(fz.gr (bg.mono λk _ C=>.inl C)).mono λk _ C=>.inr C
end Go.Proofs.YtgobkbeokaaplaaGreatDoor
namespace Go.Wk
open Go.RowKit Maps
variable {d n ty:Nat}
theorem dmlo{P:Program}{al:AL}{w:World}{Q:Exit->Act->World->Prop}{ops:Array Oper}{drest:List (Nat×Oper)}{pos:String}{aft:Array Edge}{tt:TT}[hT:Tab P tt]{t k e b m:Nat}{kd:TK}{f:Lit->Option Value}{x y:Operand}{key z:Value}{kl:Lit}(K:Keyed P k)(hM:MapS P k w b m f)(hz:Qt P e=some z)(hkey:keyOf P k key=some kl)(kk:WD P n ops Q drest ((d,.tuple #[(f kl).getD z,.bool (f kl).isSome])::al) w)(ht:tk tt t=some kd:=by rfl)(hk:kd.desc=.map k e:=by rfl)(hx:ev al x=some (.map (some b)):=by rfl)(hy:ev al y=some key:=by rfl)(hd:Nat.blt d n=true:=by rfl):
  WD P n ops Q ((0,⟨some d,.lookup t x y true,ty,pos,aft,none⟩)::drest) al w :=
 dy (λw' j a i=>by
  have:=((hM.ext j).look K (Yc hT.ok ht hk rfl) (Jfj hz w') hkey).1;simp[execOp,i.ev hx,i.ev hy,this]) hd kk
end Go.Wk
namespace Go.Proofs.YtgobkbeokaaplaaGreatDoor
open Go.RowKit Pl Go.Wk
attribute [local irreducible] WC WL QX WD WDB WP WN WG
variable {B0 c v:Nat}{A:Option Addr}{k y:Row}
def trK(bs:List BkT)(k:Row): Tr:=match bs.find? λb=>decide (b.1=k) with
 | some b=>b.2
 | none=>.nil
theorem Jdn(bs:List BkT)(k:Row): (trK bs k).toL=entK bs k:=by
 unfold trK entK;cases bs.find? λb=>decide (b.1=k)<;>rfl
theorem Qxh: ∀ {bs:List BkT} {k:Row} {i:Nat},Ze bs k=some i->∃ b,bs[i]?=some b/\trK bs k=b.2/\b∈bs
 | [],_,_,h=>by simp[Ze]at h
 | b::bs,k,i,h=>by
  unfold Ze at h;rw[List.findIdx?_cons]at h;by_cases e:b.1=k
  .grind [Option.some.injEq,trK,List.mem_cons_self]
  simp only[e,decide_false]at h;obtain⟨j,hj,rfl⟩:=Option.map_eq_some_iff.1 h;obtain⟨b',h1,h2,h3⟩:=Qxh (bs:=bs) (k:=k) hj;grind [trK,List.mem_cons_of_mem]
theorem Jhz{bs:List BkT}(h:Ze bs k=none): trK bs k=.nil:=by grind [Ze,List.findIdx?_eq_none_iff,List.find?_eq_none.2,trK]
theorem Qwn{s u:Nat}(h:s<2^u): ∀ k,u<=k->bk s k=bk s u
 | 0,hk=>by(have:u=0:=by omega);(rw[this])
 | k+1,hk=>by
  by_cases e:u=k+1
  .rw[e]
  rw[Gl,Qwn h k om];grind [Nat.testBit_lt_two_pow,Nat.lt_of_lt_of_le,Nat.pow_le_pow_right]
theorem Jvp(v:V)(w:World): (Instr.buildSlice 59 1 #[(0,v.val)]).run Tryz.prog w=.ok (.slice (some ⟨w.heap.size,0,none⟩) 1 1) (w.alloc (.cells v.cells.toArray 147)):=kr
section
variable {w:World} {x:Value} {f:Nat} {ds:List Bool} {kf:Nat->Nat} {pf:Nat->Int} {BB:Nat->List BkT} {tot:Nat}
theorem Jhp(h:IxV w x f ds kf pf BB tot): Ret Tryz.prog 65 [x] w λu w'=>u=.int .i64 (f:Int)/\Ext w w':=by
 obtain⟨DA,dc,BA,cb,KA,ck,PA,cp,Z,G,D,rfl,J,O,hD,hB,hK,hP,o,hv⟩:=h.ex;obtain⟨TA,tc,rfl,_⟩:=id o;refine enE Tryz.func65 Tryz.ntmps65 ?_;refine bxR ?_;intro U b j hb C;refine ldR (C.at (i:=0) rfl) ?_;refine ρ ?_;exact Jj ⟨rfl,j⟩
theorem Qqw(h:IxV w x f ds kf pf BB tot)(hv:v<f): Ret Tryz.prog 79 [x,.int .i64 (v:Int)] w λu w'=>u=.bool true/\Ext w w':=by
 obtain⟨DA,dc,BA,cb,KA,ck,PA,cp,tv,G,D,rfl,O,U,hD,hB,hK,hP,o,J⟩:=h.ex;obtain⟨TA,tc,rfl,_⟩:=id o;refine enE Tryz.func79 Tryz.ntmps79 ?_;refine bxR ?_;intro Z b j hb C;refine ktR 7 ?_ ?_
 .grind
 refine ldR (C.at (i:=0) rfl) ?_;refine ρ ?_;refine Jj ⟨?_,j⟩;grind
theorem Jhm(h:IxV w x f ds kf pf BB tot)(hn:Nb tot): Ret Tryz.prog 29 [x] w λu w'=>NatV w' u tot/\Fresh w u/\Ext w w':=by
 obtain⟨DA,dc,BA,cb,KA,ck,PA,cp,tv,O,J,rfl,U,Z,hD,hB,hK,hP,o,hv⟩:=h.ex;obtain⟨TA,tc,rfl,_⟩:=id o;refine enE Tryz.func29 Tryz.ntmps29 ?_;refine bxR ?_;intro w1 b j hb G;refine ldR (G.at (i:=4) rfl) ?_;refine clR (Jgs (o.ext j) hn.len) ?_;rintro u w2 ⟨h2,D,C⟩;refine ρ ?_;exact Jj ⟨h2,λad m c e=>nL j.size (D ad m c e),j.trans C⟩
theorem Jhq(h:IxV w x f ds kf pf BB tot): Ret Tryz.prog 147 [x] w λu w'=>(∃ A c,u=.slice A f c/\f<=c/\Rd w' 3 A f (Qe f (Qp kf pf))/\∀ ad,A=some ad->w.heap.size<=ad.block)/\Ext w w':=by
 obtain⟨DA,dc,BA,cb,KA,ck,PA,cp,tv,Z,U,rfl,a1,a2,hD,hB,hK,hP,C,hv⟩:=h.ex;obtain⟨TA,tc,rfl,_⟩:=id C;have a3:=h.f32;refine enE Tryz.func147 Tryz.ntmps147 ?_;refine bxR ?_;intro w1 b j hb O;refine ldR (O.at (i:=1) rfl) ?_;refine clR (Qks (hB.ext j) (Qxs _ _ _) om) ?_;rintro _ w2 ⟨⟨A2,c2,rfl,G,J,D⟩,o⟩;refine ρ ?_;exact Jj ⟨⟨A2,c2,rfl,G,J,λad e=>nL j.size (D ad e)⟩,j.trans o⟩
theorem zIntv: Qt Tryz.prog 3=some (.int .i64 0):=kr
theorem Xzv(w:World): (Instr.build 76 #[]).run Tryz.prog w=.ok (.agg #[.bool false,.pointer none]) w:=kr
theorem Jbw{w0:World}(hTB:TB B0 w)(h0:Ext w0 w)(h:IxV w0 x f ds kf pf BB tot)(hv:v<f)(hk:RdR w A k)(hfit:FitR k):
  Ret Tryz.prog 117 [x,.int .i64 (v:Int),.slice A k.length c] w λu w'=>∃ d p,u=.tuple #[.agg #[.bool d,.pointer p],.bool (Ze (BB v) k).isSome]/\TrV (λ_=>False) w0 (trK (BB v) k) (.pointer p)/\((Ze (BB v) k).isSome=true->d=ds.getD v false)/\Ext w w':=by
 obtain⟨DA,dc,BA,cb,KA,ck,PA,cp,tv,a7,ai,rfl,b3,b4,hD,hB,hK,hP,an,am⟩:=id h.ex;obtain⟨TA,tc,rfl,_⟩:=id an;obtain⟨au,mb,m,fm,b8,hm,⟨hM,_⟩,ar⟩:=am v hv;have ap:ai[v]?=some (.map (some mb)):=by grind
 have ab:a7[v]?=some (a7.getD v (.slice none 0 0)):=by
  have:=hK.len;grind
 refine enE Tryz.func117 Tryz.ntmps117 ?_;refine bxR ?_;intro w1 b U hb af;refine Jb Vn ?_;intro w2 b6 O ac av;refine Qy (af.ext O) ?_;refine clR (Qqw (h.ext (h0.trans (U.trans O))) hv) ?_;rintro _ w3 ⟨rfl,a4⟩;have aa:=(U.trans O).trans a4;have a2:Ext w3 w3.drew:=(Ext.refl w3).drew;have C:=aa.trans a2;have Z:=h0.trans C;have ag:=((af.ext O).ext a4).ext a2;refine drR (scq 13 [6]) ?_;refine Jz (ag.at (i:=3) rfl) ?_;refine Jc v (hP.ext Z) hv ?_;refine Jz ((hP.ext Z).cell ap) ?_;refine Jg (Jzq (r:=k) (hTB.ext C) (hk.ext C) (λu hu=>(hfit.2 u hu).1) (by have:=hfit.len;omega) (by have:=hfit.1;omega)) ?_;rintro _ w4 ⟨rfl,J⟩;refine⟨J,?_⟩;have D:=C.trans J;have o:=h0.trans D;refine ρd ?_;refine dmlo KS (hM.ext o) zIntv (Kj hfit) ?_;rw[ar];have a1:=((av.ext a4).ext a2).ext J;cases hix:Ze (BB v) k with
 | none=>
  refine ρd ?_;refine Xo (Xzv _) ?_;refine Xa a1 ?_;intro w5 G aq a3;refine ρ ?_;refine Vv G ⟨false,none,rfl,?_,(λh=>by cases h),a3 w D (nL U.size ac)⟩;rw[Jhz hix];rfl
 | some i=>
  obtain⟨bt,a6,ao,b5⟩:=Qxh hix;obtain⟨ps,GA,gc,ah,ax,b2,ay,ae,b7,ad⟩:=au;have li:i<ps.length:=by have:=(List.getElem?_eq_some_iff.1 a6).1;rw[ah,List.length_map]at this;exact this
  obtain⟨z,hz⟩:∃ z,z=ps[i]:=⟨_,rfl⟩;have aj:z∈ps:=by rw[hz];exact List.getElem_mem li
  have ak:z.2=bt:=by
   rw[ah,List.getElem?_map,List.getElem?_eq_getElem li,<-hz]at a6;simpa using a6
  obtain⟨b1,kv,zq,aw,az,a8⟩:=ad z aj;obtain⟨zp,rfl⟩:=a8.ptr;have a5:∀ j u,([.bool (ds.getD v false),.pointer zp]:List Value)[j]?=some u->w4.cell? (((adr GA (i*3)).add 1).add j)=some u:=λj u hu=>by
   have hj:j<2:=(List.getElem?_eq_some_iff.1 hu).1;rw[Xt,Xt,Nat.add_assoc];refine(ae.ext o).cell ?_;rw[Iu (p:=z) (λp hp=>(ad p hp).1) (by rw[hz];exact gE li) om,aw,Nat.add_comm];exact hu
  rw[ax]at ab;refine ρd ?_;refine ldR ((ag.ext J).at (i:=2) rfl) ?_;refine ixR v (hK.ext o) hv ?_;refine ldR ((hK.ext o).cell ab) ?_;refine Qs 3 i (ae.ext o) li ?_;refine Jt (cs:=[.bool (ds.getD v false),.pointer zp]) a5 ?_;refine Xa a1 ?_;intro w5 G aq a3;have a9:=a3 w D (nL U.size ac);refine ρ ?_;refine Vv G ⟨_,zp,rfl,?_,λ_=>rfl,a9⟩;rw[ao,<-ak];exact a8
theorem Jhn(h:IxV w x f ds kf pf BB tot)(hv:v<f)(hy:RdR w A y)(hyc:y.length<=c)(hyl:y.length<=32)(hk:kf v<2^y.length):
  Ret Tryz.prog 118 [x,.int .i64 (v:Int),.slice A y.length c] w λu w'=>RowX w' (λk=>k<w.heap.size) u (pmR (bk (kf v) 32) y)/\Ext w w':=by
 obtain⟨DA,dc,BA,cb,KA,ck,PA,cp,tv,ao,an,rfl,au,av,hD,hB,hK,hP,ac,ap⟩:=id h.ex;obtain⟨TA,tc,rfl,_⟩:=id ac;have O:kf v<4294967296:=nM hk (Jxw hyl);have am:Qz (kf v)<=y.length:=Jqn hk;have o:∀ {w'} (hx:Ext w w') j u,(Qp kf pf v)[j]?=some u->w'.cell? ((adr BA (v*3)).add j)=some u:=λhx j u hu=>by
  have hj:j<3:=by grind [Nat.lt_or_ge,List.getElem?_eq_none,Qp]
  rw[Xt];exact(hB.ext hx).cell ((Jqt (sz:=3) (λ_ _=>rfl) hv hj).trans hu)
 refine enE Tryz.func118 Tryz.ntmps118 ?_;refine bxR ?_;intro w1 b a5 hb a9;refine Qy a9 ?_;refine clR (Qqw (h.ext a5) hv) ?_;rintro _ w2 ⟨rfl,a4⟩;have D:=a5.trans a4;have a2:=a9.ext a4;refine ldR (a2.at (i:=1) rfl) ?_;refine Qs 3 v (hB.ext D) hv ?_;refine ldR (o D 1 _ rfl) ?_;refine clR (Qqr (kf v) O w2) ?_;rintro _ ab ⟨rfl,e2⟩;rw[e2];clear e2 ab;refine cfR ?_ ?_
 .grind
 refine Qk Jqx ?_;intro w3 b3 a1 ai ak;have U:=D.trans a1;have a8:=a2.ext a1;refine ldR (a8.at (i:=1) rfl) ?_;refine Qs 3 v (hB.ext U) hv ?_;refine ldR (o U 1 _ rfl) ?_;refine clR (Qqr (kf v) O w3) ?_;rintro _ aa ⟨rfl,e3⟩;rw[e3];clear e3 aa;refine ρ ?_;refine Jo (fun (u:Nat) (vk:Value)=>[(1,.int .i64 (v:Int)),(2,.slice A y.length c),(3,.pointer (some ⟨b,0,none⟩)),(7,vk),(32,.int .i64 (Qz (kf v):Int)),(33,.int .i64 (u:Int))])
  (λu vk w'=>u<=Qz (kf v)/\Ext w2 w'/\w'.ownsRow w2.heap.size 147 3 vk (bk (kf v) u).length (Jr (pmR (bk (kf v) u) y))) (λu _=>Qz (kf v)-u) 0 (.slice (some ⟨b3,0,none⟩) 0 0) sB
  ⟨Nat.zero_le _,a1,ak.own (n:=0) ai rfl (Nat.zero_le _)⟩ ?_
 rintro u vk w4 ⟨hu,C,J⟩;have G:=D.trans C;have a7:=a2.ext C;refine ciR (λh=>?_) (λh=>?_)
 .have lu:u<Qz (kf v):=by have:=oT h;omega
  clear h;refine ldR (a7.at (i:=1) rfl) ?_;refine Qs 3 v (hB.ext G) hv ?_;refine ldR (o G 1 _ rfl) ?_;refine ρ ?_;refine Iy (s:=kf v) (v:=u) om ?_;refine ρ ?_;rw[Gm O];refine ci (λh=>?_) (λh=>?_)
  .have a3:=hy.ext G;refine Qs 3 u a3 om ?_;refine Jt (cs:=(y.getD u V0).cells) (λj u' a6=>RdR.cell a3 om a6) ?_;refine Qk (Jvp (y.getD u V0)) ?_;intro w5 b5 Z az aj;obtain⟨A3,c3,rfl,aw,af⟩:=Jv J;have ax:=Ux (kf v) u;refine ρ ?_;refine apb (m':=1) (news:=(y.getD u V0).cells) EV (Jk J Z) (aj.rd (n:=1) rfl) (V.one _) (by unfold maxLen;omega) om (C.trans Z).size ?_;intro v6 w6 aq ae ar;have e:bk (kf v) (u+1)=bk (kf v) u++[u]:=by rw[Gl,h];simp
   refine ρ ?_;refine Jl (u+1) v6 sO ⟨lu,Qh (C.trans Z) ae (λg eg=>(af g eg).1),?_⟩ om;grind [pmR,bk,kf,V0,List.length_append,List.length_singleton,rowC_app',Jr]
  have e:bk (kf v) (u+1)=bk (kf v) u:=by rw[Gl,h];simp
  refine ρ ?_;refine Jl (u+1) vk sO ⟨lu,C,by rw[e];exact J⟩ om
 have a6:u=Qz (kf v):=by have:=oF h;omega
 clear h;have e:bk (kf v) u=bk (kf v) 32:=by grind [Qwn,Jhd]
 rw[e]at J;obtain⟨A2,c2,rfl,ah,ag⟩:=Jv J;have ay:=Ux (kf v) 32;refine ρ ?_;refine Jj ⟨⟨A2,c2,by rw[Qf],by rw[Qf];exact ah,by rw[Qf];omega,by unfold RdR;rw[Qf];exact Rd.own J,λ_ ad e=>?_⟩,G⟩;have:=(ag ad.block (by rw[e];simp[Value.ownBlock])).1;have:=D.size;omega
end
end Go.Proofs.YtgobkbeokaaplaaGreatDoor
namespace Go.Wk
open Go.RowKit
open Go.Maps (Keyed)
variable {f:Lit->Option Value}{b k m r:Nat}{x:Operand}
def RgS(P:Program)(k:TypeId)(w:World)(b r n:Nat)(f:Lit->Option Value)(left:Lit->Bool)(cnt:Nat): Prop :=
 ∃ D:DV,w.ranges P k RT b r n D left cnt/\(∀ kl,Maps.has D kl=(f kl).isSome)/\∀ kl zd,D.atKey kl zd=(match f kl with|some v=>.held v|none=>zd)
section
variable {P:Program} {k:TypeId} {w w':World} {b r n cnt:Nat} {f:Lit->Option Value} {left:Lit->Bool}
theorem RgS.gr{N:Nat->Prop}(h:RgS P k w b r n f left cnt)(hg:GrN N w w')(hb:¬ N b)(hr:¬ N r): RgS P k w' b r n f left cnt:=by
 obtain⟨D,G,U⟩:=h;have C:=G.owns.lt;have u:=G.lt;obtain⟨es,j,i,o,c0,e1,F,J,O,Z,rest⟩:=G;exact⟨D,⟨es,j,i,o,c0,(hg.block b C hb).trans e1,F,J,O,(hg.block r u hr).trans Z,rest⟩,U⟩
theorem RgS.ext(h:RgS P k w b r n f left cnt)(hx:Ext w w'): RgS P k w' b r n f left cnt:=h.gr (N:=λ_=>False) (GrN.ext hx) (λe=>e) (λe=>e)
theorem RgS.lt(h:RgS P k w b r n f left cnt): r<w.heap.size:=by obtain⟨D,i,_⟩:=h;exact i.lt
end
section
variable {P:Program} {n:Nat} {al:AL} {w:World} {Q:Exit->Act->World->Prop} {ops:Array Oper} {rest:List Oper}
variable {d ty:Nat} {pos:String} {aft:Array Edge} {tt:TT}
theorem rngm[hT:Tab P tt]{t e:Nat}{kd:TK}(K:Keyed P k)(hM:MapS P k w b m f)(kk:∀ w1 r cnt,Ext w w1->w.heap.size<=r->RgS P k w1 b r m f (λkl=>(f kl).isSome) cnt->WL P n ops Q rest ((d,.pointer (some ⟨r,0,none⟩))::al) w1)(ht:tk tt t=some kd:=by rfl)(hk:kd.desc=.map k e:=by rfl)(hx:ev al x=some (.map (some b)):=by rfl)(hd:Nat.blt d n=true:=by rfl):
  WL P n ops Q (⟨some d,.range t x,ty,pos,aft,none⟩::rest) al w:=by
 obtain⟨D,O,C,J⟩:=hM;obtain⟨w',j,u,o,_⟩:=O.range K (Yc hT.ok ht hk rfl);have U:Maps.has D=λkl=>(f kl).isSome:=funext C;rw[U]at u;refine wop hd (λa G=>?_) (kk w' w.heap.size _ ⟨o.os,o.tape,o.output,o.size,λi hi=>o.block i hi (by simp)⟩ (nR _) ⟨D,u,C,J⟩);simp[execOp,G.ev hx,j]
theorem nxtm{cnt:Nat}{left:Lit->Bool}(K:Keyed P k)(h:RgS P k w b r m f left cnt)(kd:(∀ kl,left kl=false)->WL P n ops Q rest ((d,.tuple #[.bool false])::al) w)(km:∀(key v:Value) (kl:Lit) (w1:World) (cnt':Nat),keyOf P k key=some kl->left kl=true->f kl=some v->RgS P k w1 b r m f (λz=>left z && !z.sameKey kl) cnt'->cnt'<cnt->GrN (λi=>i=r) w w1 ->
  (Instr.entry (.pointer (some ⟨r,0,none⟩))).run P w1=.ok (.tuple #[key,v]) w1->WL P n ops Q rest ((d,.tuple #[.bool true,key,v])::al) w1)(hx:ev al x=some (.pointer (some ⟨r,0,none⟩)):=by rfl)(hd:Nat.blt d n=true:=by rfl): WL P n ops Q (⟨some d,.next x false,ty,pos,aft,none⟩::rest) al w:=by
 obtain⟨D,h1,Z,G⟩:=h;rcases h1.next K ty with⟨h0,O,j⟩|⟨key,v,kl,y,w',cnt',hkey,hlk,hv,hat,j,hrg,hlt,hgr,hsz,hen⟩
 .exact wop hd (λa C=>by simp[execOp,C.ev hx,j]) (kd O)
 have J:y=(.held v,[]):=by simpa [RT] using hv.symm
 have U:f kl=some v:=by
  have o:=hat (.map []);rw[G,J]at o;cases hfk:f kl with
  | none=>rw[hfk]at o;cases o
  | some u=>rw[hfk]at o;injection o with o;rw[o]
 exact wop hd (λa C=>by simp[execOp,C.ev hx,j]) (km key v kl w' cnt' hkey hlk U ⟨D,hrg,Z,G⟩ hlt (GrN.by hgr λi hi=>by injection hi with hi;exact hi.symm) hen)
theorem entm{key v:Value}(hen:(Instr.entry (.pointer (some ⟨r,0,none⟩))).run P w=.ok (.tuple #[key,v]) w)(kk:WL P n ops Q rest ((d,.tuple #[key,v])::al) w)(hx:ev al x=some (.pointer (some ⟨r,0,none⟩)):=by rfl)(hd:Nat.blt d n=true:=by rfl): WL P n ops Q (⟨some d,.entry x,ty,pos,aft,none⟩::rest) al w :=
 wop hd (λa i=>by simp[execOp,i.ev hx,hen]) kk
end
end Go.Wk
namespace Go.Proofs.YtgobkbeokaaplaaGreatDoor
namespace Pl
variable {m n v:Nat}{x y:Row}
section
variable {α:Type} {X:AX α}
def AX.Gp(X:AX α)(y:List α): Prop:=∀ v,v<y.length->y.getD v X.d0∈(X.E v (X.key v (y.take v))).map (·.1)
theorem AX.Gp.nil: X.Gp []:=λv h=>by simp at h
theorem AX.Gp.snoc{y:List α}(h:X.Gp y){a:α}(ha:a∈(X.E y.length (X.key y.length y)).map (·.1)): X.Gp (y++[a]):=λv i=>by
 rw[List.length_append,List.length_singleton]at i;by_cases e:v=y.length
 .grind
 rw[Jvc om,List.take_append_of_le_length om];exact h v om
theorem getD_take(d0:α){y:List α}(h:v<m): (y.take m).getD v d0=y.getD v d0:=by simp[List.getD,h]
theorem AX.Gp.pre{y:List α}(h:X.Gp y)(m:Nat): X.Gp (y.take m):=λv i=>by
 rw[List.length_take]at i;rw[getD_take X.d0 om,List.take_take,Nat.min_eq_left om];exact h v om
theorem Jrr(d0:α){y:List α}(h:y.length=n+1): y=y.take n++[y.getD n d0]:=by
 have e:y.getD n d0=y[n]:=by grind
 rw[e,<-List.take_succ_eq_append_getElem,List.take_of_length_le om]
theorem Qcx{l:List (α×Nat)}{p:α×Nat}(h:p∈l): p.2<=tot l:=by
 induction l with
 | nil=>cases h
 | cons q l ih=>
  grind [tot,List.mem_cons.1]
theorem AX.Ok.pend_snoc(h:X.Ok){y:List α}(hm:y.length<X.F){a:α}(ha:a∈(X.E y.length (X.key y.length y)).map (·.1)): X.pend (y.length+1) (y++[a])<=X.pend y.length y:=by
 obtain⟨p,i,rfl⟩:=List.mem_map.1 ha;rw[h.pend_next hm i,h.pend_split hm];exact nO _ (Qcx i)
theorem AX.Ok.pend_le(h:X.Ok): ∀(n:Nat) (y:List α),y.length=n->n<=X.F->X.Gp y->X.pend n y<=X.pend 0 []
 | 0,y,e,_,_=>by grind
 | n+1,y,e,hF,hg=>by
  have h1:=Jrr X.d0 e;have hl:(y.take n).length=n:=by grind
  have h2:=h.pend_le n (y.take n) hl om (hg.pre n);have h3:=h.pend_snoc (y:=y.take n) (a:=y.getD n X.d0) om (by rw[hl];exact hg n om);grind
theorem AX.Ok.others_le(h:X.Ok){y:List α}(hm:y.length<X.F)(hp:0<X.pend y.length y): 0<X.others y.length y/\X.others y.length y<=X.pend y.length y:=by
 rw[h.pend_split hm]at hp ⊢;have j:=Nat.pos_of_mul_pos_right hp;have i:=Nat.pos_of_mul_pos_left hp;refine⟨by grind,?_⟩;have:0<X.T y.length y:=by grind
 calc X.others y.length y=1*X.others y.length y:=(Nat.one_mul _).symm
  _<=_:=nO _ this
def AX.prodS(X:AX α)(S:Nat->Bool)(y:List α): Nat:=Jh X.F λc=>if S c=true then X.T c y else 1
end
theorem Lt.filter{ds:List Bool}{l:List Row}(h:Lt ds l)(q:Row->Bool): Lt ds (l.filter q):=h.sublist List.filter_sublist
section
variable {X:IX} {ds:List Bool}
theorem AX.gp_iff(hx:x∈X.ext n y)(hm:m<=y.length+n)(hg:X.Gp y): X.Gp (x.take m):=by
 obtain⟨u,o,j⟩:=(AX.ext_mem n y x).1 hx;intro v i;rw[List.length_take]at i;rw[getD_take X.d0 om,List.take_take,Nat.min_eq_left om];rcases Nat.lt_or_ge v y.length with h4|h4
 .have:=hg v h4;grind
 repeat grind
theorem AX.ext_gp(hx:x∈X.ext X.F [])(m:Nat): X.Gp (x.take m):=by
 have i:=((AX.ext_mem X.F [] x).1 hx).1;rw[List.length_nil,Nat.zero_add]at i;rcases Nat.lt_or_ge X.F m with h|h
 .rw[List.take_of_length_le om];have:=AX.gp_iff (m:=X.F) hx (by simp) AX.Gp.nil;grind
 repeat grind [AX.gp_iff,AX.Gp.nil]
theorem AX.Srt.within(h:X.Srt ds)(hy:y.length<=X.F)(hg:X.Gp y): (X.ext X.F []).filter (λx=>decide (x.take y.length=y))=X.ext (X.F-y.length) y:=by
 refine Jjv ((h.ext X.F [] (by simp)).filter _) (h.ext _ y om) λx=>?_;rw[List.mem_filter,AX.ext_mem,AX.ext_mem,decide_eq_true_eq];simp only[List.length_nil,Nat.zero_add,List.take_zero,true_and,Nat.zero_le,true_implies];constructor
 .grind
 rintro⟨u,i,o⟩;refine⟨⟨om,λv j=>?_⟩,i⟩;rcases Nat.lt_or_ge v y.length with h4|h4
 .have:=hg v h4;grind
 repeat grind
theorem AX.within_none(hg:¬ X.Gp y): (X.ext X.F []).filter (λx=>decide (x.take y.length=y))=[]:=by grind [List.filter_eq_nil_iff,AX.ext_gp]
end
end Pl
open Pl Go.Wk
variable {c m:Nat}{y:Row}
def Xz(f:Nat)(kf:Nat->Nat)(pf:Nat->Int)(BB:Nat->List BkT): IX:=⟨V0,f,λv=>bk (kf v) 32,pf,λv k=>entK (BB v) k⟩
structure IxP(f:Nat)(ds:List Bool)(kf:Nat->Nat)(pf:Nat->Int)(BB:Nat->List BkT)(tot:Nat)(L:List Row): Prop where
 len:tot=L.length
 nil:tot=0->∀ v,BB v=[]
 ok:tot≠0->(Xz f kf pf BB).Ok
 srt:tot≠0->(Xz f kf pf BB).Srt ds
 ans:tot≠0->L=(Xz f kf pf BB).ext f []
 big:∀ v k,(trK (BB v) k).sum<=4294967296^20
 siz:∀ v k,(trK (BB v) k).sz<=65536
 fit:∀ v b,b∈BB v->∀ p∈b.2.toL,Zr p.1/\p.1.bytes.length<=24
 f32:f<=32
 kv:∀ v,v<f->kf v<2^v
section
variable {f:Nat} {ds:List Bool} {kf:Nat->Nat} {pf:Nat->Int} {BB:Nat->List BkT} {tot:Nat} {L:List Row}
theorem Qvd(c:Nat)(y:Row): (Xz f kf pf BB).T c y=(trK (BB c) (pmR (bk (kf c) 32) y)).sum:=by
 rw[Tr.sum_eq,Jdn];rfl
theorem Qvf(c:Nat)(k:Row): (Xz f kf pf BB).E c k=(trK (BB c) k).toL:=by rw[Jdn];rfl
theorem IxP.one(h:IxP f ds kf pf BB tot L)(v:Nat)(k:Row)(p:V×Nat)(hp:p∈(trK (BB v) k).toL): Zr p.1/\p.1.bytes.length<=24:=by
 unfold trK at hp;cases hf:(BB v).find? λb=>decide (b.1=k) with
 | none=>rw[hf]at hp;cases hp
 | some b=>rw[hf]at hp;exact h.fit v b (List.mem_of_find?_eq_some hf) p hp
theorem IxP.gp(h:IxP f ds kf pf BB tot L)(hg:(Xz f kf pf BB).Gp y): ∀ u∈y,Zr u/\u.bytes.length<=24:=λu j=>by
 obtain⟨i,hi,rfl⟩:=List.getElem_of_mem j;have:=hg i hi;rw[Qvf]at this;obtain⟨p,o,e⟩:=List.mem_map.1 this;have C:y.getD i (Xz f kf pf BB).d0=y[i]:=by simp[List.getD,hi]
 rw[C]at e;rw[<-e];exact h.one _ _ p o
theorem fit0: Zr V0/\V0.bytes.length<=24:=⟨⟨⟨by decide,by decide⟩,⟨by decide,by decide⟩⟩,by decide⟩
theorem IxP.fitK(h:IxP f ds kf pf BB tot L)(hg:(Xz f kf pf BB).Gp y)(c:Nat): FitR (pmR (bk (kf c) 32) y):=by
 refine⟨by grind [Qf,Ux],λv j=>?_⟩;obtain⟨i,_,rfl⟩:=List.mem_map.1 j;simp only[List.getD];cases hi:y[i]? with
 | none=>exact fit0
 | some u=>exact h.gp hg u (List.mem_of_getElem? hi)
theorem IxP.pend0(h:IxP f ds kf pf BB tot L)(h0:tot≠0): (Xz f kf pf BB).pend 0 []=tot:=by
 have:=(h.ok h0).ext_len f [] (by simp;rfl);rw[<-h.ans h0,<-h.len]at this;exact this.symm
theorem IxP.keyb(h:IxP f ds kf pf BB tot L)(h0:tot≠0)(hc:c<f)(hp:pf c<(m:Int)): kf c<2^m:=by
 refine Nat.lt_pow_two_of_testBit _ λi hi=>?_;cases hb:(kf c).testBit i with
 | false=>rfl
 | true=>
  have j:i<32:=by
   rcases Nat.lt_or_ge i 32 with h'|h'
   .exact h'
   rw[Nat.testBit_lt_two_pow (nM (h.kv c hc) (Nat.pow_le_pow_right (n:=2) (by decide) (show c<=i by have:=h.f32;omega)))]at hb;cases hb
  have:(i:Int)<=pf c:=(h.ok h0).kl c hc i (bk_mem.2 ⟨j,hb⟩);omega
theorem IxP.par(h:IxP f ds kf pf BB tot L)(h0:tot≠0)(hc:c<f): -1<=pf c/\pf c<(c:Int):=(h.ok h0).pl c hc
end
end Go.Proofs.YtgobkbeokaaplaaGreatDoor
namespace Go.Wk
open Go.RowKit
open Go.Maps (Keyed)
variable {key v:Value}
section
variable {P:Program} {n:Nat} {al:AL} {w:World} {Q:Exit->Act->World->Prop} {ops:Array Oper} {rest:List Oper} {d ty:Nat} {op:Op} {pos:String} {aft:Array Edge} {tt:TT}
theorem wopv{w':World}(h:∀ a,Fr n al a->(execOp a.eval ⟨none,op,ty,pos,aft,none⟩).run P w=.ok (.value v) w')(k:WL P n ops Q rest al w'):
  WL P n ops Q (⟨none,op,ty,pos,aft,none⟩::rest) al w:=λa i=>
 wpList_plain rfl λK j=>by
  unfold Oper.wp;rw[h a i,Oper.upon_value];exact j _ _ (k _ i)
theorem mdn[hT:Tab P tt]{t k e b m:Nat}{kd:TK}{f:Lit->Option Value}{x y:Operand}{kl:Lit}(K:Keyed P k)(hM:MapS P k w b m f)(hkey:keyOf P k key=some kl)(kk:∀ w1,MapS P k w1 b m (upL f kl none)->w.grownBy w1 (some b)->WL P n ops Q rest al w1)(ht:tk tt t=some kd:=by rfl)(hk:kd.desc=.map k e:=by rfl)(hx:ev al x=some (.map (some b)):=by rfl)(hy:ev al y=some key:=by rfl):
  WL P n ops Q (⟨none,.call { callee:=.builtin .delete,args:=#[x,y],argTypes:=#[t,k] },ty,pos,aft,none⟩::rest) al w:=by
 obtain⟨w',j,u,o⟩:=hM.drop K (Yc hT.ok ht hk rfl) hkey ty;exact wopv (v:=.tuple #[]) (w':=w') (λa i=>by simp[execOp,resolve,invoke,builtin,i.ev hx,i.ev hy,j]) (kk w' u o)
end
end Go.Wk
namespace Go.Proofs.YtgobkbeokaaplaaGreatDoor
open Go.RowKit Pl Go.Wk
attribute [local irreducible] WC WL QX WD WDB WP WN WG
variable {M' c c' f m':Nat}{S':Nat->Bool}{BA p:Option Addr}
theorem KI: Maps.Keyed Tryz.prog 3:=Maps.int_keyed Tryz.underlying3
theorem Jqp(hc:c<=1000000): keyOf Tryz.prog 3 (.int .i64 (c:Int))=some (.int .i64 (c:Int)):=Maps.keyOf_int_mk Tryz.underlying3 (by
 have j:IntKind.i64.min = -9223372036854775808:=by decide
 have i:IntKind.i64.max=9223372036854775807:=by decide
 simp only[Lit.wf,Bool.and_eq_true,decide_eq_true_eq,j,i];omega)
theorem Qyn: Qt Tryz.prog 76=some (.agg #[.bool false,.pointer none]):=Vn
structure SeK where
 B0: Nat
 w0:World
 w1:World
 mb:Nat
 sb:Nat
 x0:Value
 x1:Value
 x2:Value
 x3:Value
 x4:Value
 BA:Option Addr
 bc:Nat
 f:Nat
 ds:List Bool
 kf:Nat->Nat
 pf:Nat->Int
 BB:Nat->List BkT
 tot:Nat
 L:List Row
def SeK.x(K:SeK): Value:=.agg #[K.x0,K.x1,K.x2,K.x3,K.x4]
def SeK.X(K:SeK): IX:=Xz K.f K.kf K.pf K.BB
def SeK.t(K:SeK)(c:Nat)(y:Row): Tr:=trK (K.BB c) (pmR (bk (K.kf c) 32) y)
theorem SeK.T(K:SeK)(c:Nat)(y:Row): K.X.T c y=(K.t c y).sum:=Qvd c y
theorem SeK.E(K:SeK)(c:Nat)(y:Row): K.X.E c (K.X.key c y)=(K.t c y).toL:=Qvf c _
def PdF(K:SeK)(y:Row)(S:Nat->Bool)(fm:Lit->Option Value): Prop :=
 (∀ c,c<K.f->S c=true->∃ d p,fm (.int .i64 (c:Int))=some (.agg #[.bool d,.pointer p])/\TrV (λ_=>False) K.w0 (K.t c y) (.pointer p)/\(K.t c y≠.nil->d=K.ds.getD c false)) /\
 ∀ kl,fm kl≠none->∃ c:Nat,c<K.f/\S c=true/\kl=.int .i64 (c:Int)
structure SeF(K:SeK): Prop where
 tb:TB K.B0 K.w0
 ix:IxV K.w0 K.x K.f K.ds K.kf K.pf K.BB K.tot
 ip:IxP K.f K.ds K.kf K.pf K.BB K.tot K.L
 ne:K.tot≠0
 e01:Ext K.w0 K.w1
 m1:K.w0.heap.size<=K.mb
 m2:K.mb<K.w1.heap.size
 s1:K.w1.heap.size<=K.sb
 bcl:K.f<=K.bc
 bg:Off (λk=>k=K.mb) K.w1 (λu=>Rd u 3 K.BA K.f (Qe K.f (Qp K.kf K.pf)))
 one:∀ u∈[K.x0,K.x1,K.x2,K.x3,K.x4],u.oneCell'=true
def sCs(K:SeK)(yv:Value)(st:Nat): List Value:=[K.x0,K.x1,K.x2,K.x3,K.x4,.slice K.BA K.f K.bc,yv,.map (some K.mb),.int .i64 (st:Int)]
structure SeM(K:SeK)(w:World)(y:Row)(S:Nat->Bool)(st M:Nat)(yv:Value)(m:Nat)(fm:Lit->Option Value): Prop where
 gr:GrN (λk=>k=K.mb) K.w1 w
 blk:Blk w K.sb 241 (sCs K yv st)
 row:w.ownsRow K.w1.heap.size 147 3 yv y.length (Jr y)
 map:MapS Tryz.prog 3 w K.mb m fm
 mle:m<=M
 pd:PdF K y S fm
def LoB(K:SeK)(B:Nat)(yv:Value): Prop:=K.sb<B/\∀ g,yv.ownBlock=some g->g<B
def SeV(K:SeK)(w:World)(y:Row)(S:Nat->Bool)(st M B:Nat): Prop:=∃ yv m fm,SeM K w y S st M yv m fm/\LoB K B yv
section
variable {K:SeK} {w w':World} {y:Row} {S:Nat->Bool} {st M m B:Nat} {yv:Value} {fm:Lit->Option Value}
theorem SeF.nsm(hF:SeF K): ¬ K.sb=K.mb:=λe=>by have:=hF.m2;have:=hF.s1;omega
theorem SeF.ext(hF:SeF K)(h:GrN (λk=>k=K.mb) K.w1 w): Ext K.w0 w:=h.old hF.e01 λk i=>by rw[i];exact hF.m1
theorem SeM.ext'(h:SeM K w y S st M yv m fm)(hx:Ext w w'): SeM K w' y S st M yv m fm :=
 ⟨h.gr.trans (GrN.ext hx),h.blk.ext hx,Jk h.row hx,h.map.ext hx,h.mle,h.pd⟩
theorem SeM.x5(h:SeM K w y S st M yv m fm)(j:Nat)(u:Value)(hu:[K.x0,K.x1,K.x2,K.x3,K.x4][j]?=some u): w.cell? ((⟨K.sb,0,none⟩:Addr).add j)=some u :=
 Blk.pre (cs:=[K.x0,K.x1,K.x2,K.x3,K.x4]) (ds:=[.slice K.BA K.f K.bc,yv,.map (some K.mb),.int .i64 (st:Int)]) h.blk j u hu
theorem SeV.ext(h:SeV K w y S st M B)(hx:Ext w w'): SeV K w' y S st M B:=by
 obtain⟨yv,m,fm,h,i⟩:=h;exact⟨yv,m,fm,h.ext' hx,i⟩
theorem SeV.top(h:SeV K w y S st M B): SeV K w y S st M w.heap.size:=by
 obtain⟨yv,m,fm,h,o⟩:=h;obtain⟨_,_,_,_,i⟩:=Jv h.row;exact⟨yv,m,fm,h,h.blk.lt,λg j=>(i g j).2⟩
theorem SeM.to(hF:SeF K)(h:SeM K w y S st M yv m fm)(hg:GrN (λk=>k=K.mb) w w'){fm':Lit->Option Value}(hM:MapS Tryz.prog 3 w' K.mb m' fm')(hm:m'<=M')(hp:PdF K y S' fm'): SeM K w' y S' st M' yv m' fm':=by
 refine⟨h.gr.trans hg,Jy h.blk hg hF.nsm,Ja h.row hg λg j e=>?_,hM,hm,hp⟩;obtain⟨_,_,_,_,i⟩:=Jv h.row;have:=(i g j).1;have:=hF.m2;omega
theorem SeV.same(h:SeV K w y S st M B)(e:∀ c,c<K.f->S c=S' c): SeV K w y S' st M B:=by
 obtain⟨yv,m,fm,h,C⟩:=h;refine⟨yv,m,fm,⟨h.gr,h.blk,h.row,h.map,h.mle,λc i o=>h.pd.1 c i ((e c i).trans o),λj u=>?_⟩,C⟩;obtain⟨c,J,G,D⟩:=h.pd.2 j u;grind
theorem SeV.more(h:SeV K w y S st M B)(hM:M<=M'): SeV K w y S st M' B:=by
 obtain⟨yv,m,fm,h,i⟩:=h;exact⟨yv,m,fm,⟨h.gr,h.blk,h.row,h.map,Nat.le_trans h.mle hM,h.pd⟩,i⟩
theorem Jbv(hc:c<=1000000): WideAt.IsKeyLit (.int .i64 (c:Int)):=KI.key (Jqp hc)
theorem Jbq(h:Lit.int .i64 (c:Int)=.int .i64 (c':Int)): c=c':=by grind
theorem PdF.put(h:PdF K y S fm)(hf:K.f<=32)(hc:c<K.f){d:Bool}(ht:TrV (λ_=>False) K.w0 (K.t c y) (.pointer p))(hd:K.t c y≠.nil->d=K.ds.getD c false):
  PdF K y (λj=>S j || decide (j=c)) (upL fm (.int .i64 (c:Int)) (some (.agg #[.bool d,.pointer p]))):=by
 constructor
 .intro j C u;by_cases e:j=c
  .subst e;rw[Kw (Jbv om)];exact⟨d,p,rfl,ht,hd⟩
  rw[Uh λD=>e (Jbq D)];exact h.1 j C (by simpa [e] using u)
 intro i o;by_cases e:i=.int .i64 (c:Int)
 .grind
 rw[Uh e]at o;obtain⟨j,O,J,G⟩:=h.2 i o;grind
theorem PdF.drop(h:PdF K y S fm)(hf:K.f<=32)(hc:c<K.f): PdF K y (λj=>S j && !decide (j=c)) (upL fm (.int .i64 (c:Int)) none):=by
 constructor
 .intro j C i;simp only[Bool.and_eq_true,Bool.not_eq_true',decide_eq_false_iff_not]at i;rw[Uh λD=>i.2 (Jbq D)];exact h.1 j C i.1
 intro o u;by_cases e:o=.int .i64 (c:Int)
 .grind [Kw,Jbv]
 rw[Uh e]at u;obtain⟨j,O,J,G⟩:=h.2 o u;grind
theorem SeK.t_app(hF:SeF K)(hc:c<K.f)(hp:K.pf c<(y.length:Int))(z:Row): K.t c (y++z)=K.t c y:=by
 have:=(hF.ip.ok hF.ne).key_pre (y:=y) (z:=z) hc hp;unfold SeK.t;exact congrArg (trK (K.BB c)) this
theorem PdF.app(h:PdF K y S fm)(hF:SeF K)(hS:∀ c,c<K.f->S c=true->K.pf c<(y.length:Int))(z:Row): PdF K (y++z) S fm:=by
 refine⟨λc i j=>?_,h.2⟩;rw[SeK.t_app hF i (hS c i j)];exact h.1 c i j
theorem Qwx{kf:Nat->Nat}{pf:Nat->Int}(hR:Rd w 3 BA f (Qe f (Qp kf pf)))(hc:c<f): ∀ j u,(Qp kf pf c)[j]?=some u->w.cell? ((adr BA (c*3)).add j)=some u:=λj u i=>by
 have o:j<3:=by grind [Nat.lt_or_ge,List.getElem?_eq_none,Qp]
 rw[Xt];exact hR.cell ((Jqt (sz:=3) (λ_ _=>rfl) hc o).trans i)
theorem Qvr(hF:SeF K)(hS:SeV K w y S st M B)(hM:M<=4096)(hg:K.X.Gp y)(hyf:y.length<=K.f){v:Int}(hv:v+1=(y.length:Int)):
  Ret Tryz.prog 177 [.pointer (some ⟨K.sb,0,none⟩),.int .i64 v] w λu w'=>u=.tuple #[]/\GrN (λk=>k=K.mb) w w'/\SeV K w' y (λc=>S c || decide (K.pf c=v)) st (M+K.f) B:=by
 have b3:=hF.ip.f32;obtain⟨an,m0,b2,H0,ad⟩:=id hS;refine enE Tryz.func177 Tryz.ntmps177 ?_;refine ldR (H0.blk.at (i:=5) rfl) ?_;refine ρ ?_;refine Qv (fun (c:Nat)=>[(0,.pointer (some ⟨K.sb,0,none⟩)),(1,.int .i64 v),(11,.slice K.BA K.f K.bc),(12,.int .i64 (K.f:Int)),(13,.int .i64 (c:Int))])
  (λc w'=>c<=K.f/\GrN (λk=>k=K.mb) w w'/\SeV K w' y (λj=>S j || (decide (j<c) && decide (K.pf j=v))) st (M+c) B) (λc=>K.f-c) 0 sB
  ⟨Nat.zero_le _,GrN.refl _ _,hS.same λc _=>by simp⟩ ?_
 clear ad H0 an m0 b2;rintro c w1 ⟨hc,a8,a9⟩;refine ciR (λh=>?_) (λh=>?_)
 .have O:c<K.f:=by have:=oT h;omega
  clear h;obtain⟨yv,m,fm,H,ar⟩:=id a9;have ag:=hF.bg w1 H.gr;refine Qs 3 c ag O ?_;refine Jt (cs:=Qp K.kf K.pf c) (Qwx ag O) ?_;refine Jb Jkm ?_;intro w2 bb aq ax b1;refine Qb (cs':=Qp K.kf K.pf c) b1 ?_ Jzc;intro w3 am af ap;have J:Ext w1 w3:=ap w1 aq ax;refine ldR (am.at (i:=2) rfl) ?_;refine ciR (λh=>?_) (λh=>?_)
  .have hp:K.pf c=v:=Zx h;clear h;have H3:=H.ext' J;have ac:=hF.ext H3.gr;have a3:Ext w3 w3.drew:=(Ext.refl w3).drew;have Hd:=H3.ext' a3;have D:=ac.trans a3;obtain⟨YA,yc,rfl,aa,_⟩:=Jv Hd.row;have ae:=hF.ip.keyb hF.ne O (m:=y.length) (by rw[hp];omega);have U:=hF.ip.fitK hg c;refine ρ ?_;refine drH (λi=>Nat.ble 20 i) ?_;refine Zo (fuel':=8) 10 [(0,0),(0,1),(0,2),(0,3),(0,4),(0,5),(0,6),(0,7),(0,8),(0,9),(0,10),(0,11),(0,12),(0,13)] (lst 22 14) kr kr rfl ?_;refine Qn (cs:=[K.x0,K.x1,K.x2,K.x3,K.x4]) (λj u hu=>Hd.x5 j u hu) ?_;refine Qn (cs:=[K.x0,K.x1,K.x2,K.x3,K.x4]) (λj u hu=>Hd.x5 j u hu) ?_;refine Jz (Hd.blk.at (i:=6) rfl) ?_;refine ρd ?_;refine Xy ?_;refine Jwz 2 (lst 22 20) (fun (q:Bool×Option Addr×Bool×Nat)=>[(39,.agg #[.bool q.1,.pointer q.2.1]),(40,.bool q.2.2.1),(6,.pointer (some ⟨q.2.2.2,0,none⟩)),(4,.int .i64 (c:Int)),(0,.pointer (some ⟨K.sb,0,none⟩)),(1,.int .i64 v),(11,.slice K.BA K.f K.bc),(12,.int .i64 (K.f:Int)),(13,.int .i64 (c:Int))])
    (λq W=>Ext w3.drew W/\Blk W q.2.2.2 76 [.bool false,.pointer none]/\w3.drew.heap.size<=q.2.2.2/\TrV (λ_=>False) K.w0 (K.t c y) (.pointer q.2.1)/\(K.t c y≠.nil->q.1=K.ds.getD c false)) ?_ ?_
   .rintro⟨d,p,e,b6⟩ W ⟨ao,ak,ah,hT,hd⟩;simp only at ak ah hT hd;refine Zo (fuel':=0) 10 [(2,20),(2,21)] (lst 22 22) kr kr rfl ?_;refine Qj ?_;refine stW ak ?_;intro W2 aj b4 ab;refine Jf (Qo ?_);refine Qj ?_;refine ρ ?_;refine Qo ?_;refine Zf (Xy ?_);refine Uf kr ?_;have a5:Ext w3 W2:=ab w3 (a3.trans ao) (nL a3.size ah);have HW:=H3.ext' (a5.trans ((Ext.refl W2).drew));have ai:=aj.ext ((Ext.refl W2).drew);refine ρ ?_;refine drN (λ_=>False) 10 (scq 7 [106]) kr ?_;refine ρn ?_;refine nld (Js (HW.blk.at (i:=7) rfl) (λe=>e)) ?_;refine ρn ?_;refine Xp (cs:=[.bool d,.pointer p]) (λw' hg j u hu=>(Jy ai hg (λe=>e)).at hu) ?_;refine ρn ?_;refine Xh ?_;refine mup KI HW.map (by have:=HW.mle;unfold maxLen;omega) (Jqp (c:=c) om) ?_;intro W3 az af;have a7:GrN (λk=>k=K.mb) W2.drew W3:=GrN.by af λk hk=>by injection hk with hk;exact hk.symm
    have ay:=HW.to hF a7 az (M':=M+(c+1)) (by have:=HW.mle;omega) (HW.pd.put b3 O hT hd);refine ρ ?_;refine Qw (c+1) sO ⟨O,((a8.trans (GrN.ext J)).trans (GrN.ext (a5.trans (Ext.refl W2).drew))).trans a7,SeV.same ⟨_,_,_,ay,ar⟩ λj _=>?_⟩ om;by_cases e:j=c
    .subst e;simp[hp]
    have:(decide (j<c+1))=decide (j<c):=by by_cases h1:j<c<;>simp[h1]<;>omega
    rw[this];simp[e]
   intro rest;have Z:∀ {d:Bool},((Ze (K.BB c) (pmR (bk (K.kf c) 32) y)).isSome=true->d=K.ds.getD c false)->K.t c y≠.nil->d=K.ds.getD c false:=fun {d} h hne=>h (by
    cases hi:Ze (K.BB c) (pmR (bk (K.kf c) 32) y) with
    | none=>exact absurd (Jhz hi) hne
    | some i=>rfl)
   have a6:=Rd.own Hd.row;refine htwo 14 19 kr rfl rfl rfl ?_ ?_
   .refine clR (Jhn (hF.ix.ext D) O a6 aa om ae) ?_;rintro uk W1 ⟨⟨KA,kc,rfl,av,au,a4,_⟩,o⟩;refine Jf (Ip o ?_);refine htwo 15 19 kr rfl rfl rfl ?_ ?_
    .refine clR (Jbw (hF.tb.ext (D.trans o)) (D.trans o) hF.ix O a4 U) ?_;rintro u W2 ⟨d,p,rfl,hT,hd,C⟩;refine Jf (Ip C ?_);refine Zo (fuel':=4) 10 [(0,16),(0,17)] (lst 22 18) kr kr rfl ?_;refine ρd ?_;refine Xy ?_;refine Ud (fuel':=3) 18 kr kr rfl rfl ?_;refine ρp ?_;refine ρd ?_;refine Xy ?_;refine Zo (fuel':=2) 10 [(1,19)] (lst 22 20) kr kr rfl ?_;refine dalc' (cs:=[.bool false,.pointer none]) Vn ?_;intro W3 b6 G a1 a2;refine Zf (Xy ?_);exact rest (d,p,_,b6) _ _ ⟨(o.trans C).trans G,a2,Nat.le_trans (o.trans C).size a1,hT,Z hd⟩ sB
    refine Jb Vn ?_;intro W2 b6 C a1 a2;refine Jf (Ip C ?_);refine Zo (fuel':=3) 10 [(1,15),(0,16),(0,17)] ((lst 22 18).setIfInBounds 19 true) kr kr rfl ?_;refine Jg (Jbw (hF.tb.ext ((D.trans o).trans C)) ((D.trans o).trans C) hF.ix O (a4.ext C) U) ?_;rintro u W3 ⟨d,p,rfl,hT,hd,G⟩;refine⟨G,?_⟩;refine ρd ?_;refine Xy ?_;refine Ud (fuel':=2) 18 kr kr rfl rfl ?_;refine ρp ?_;refine ρd ?_;refine Xy ?_;refine hlist (listed':=lst 22 20) kr ?_;exact rest (d,p,_,b6) _ _ ⟨(o.trans C).trans G,a2.ext G,Nat.le_trans o.size a1,hT,Z hd⟩ sB
   refine Jb Vn ?_;intro W1 b6 o a1 a2;refine Jf (Ip o ?_);refine Zo (fuel':=3) 10 [(1,14),(1,15),(0,16),(0,17)] ((lst 22 18).setIfInBounds 19 true) kr kr rfl ?_;refine Jg (Jhn (hF.ix.ext (D.trans o)) O (Rd.ext a6 o) aa om ae) ?_;rintro uk W2 ⟨⟨KA,kc,rfl,av,au,a4,_⟩,C⟩;refine⟨C,?_⟩;refine Jg (Jbw (hF.tb.ext ((D.trans o).trans C)) ((D.trans o).trans C) hF.ix O a4 U) ?_;rintro u W3 ⟨d,p,rfl,hT,hd,G⟩;refine⟨G,?_⟩;refine ρd ?_;refine Xy ?_;refine Ud (fuel':=2) 18 kr kr rfl rfl ?_;refine ρp ?_;refine ρd ?_;refine Xy ?_;refine hlist (listed':=lst 22 20) kr ?_;exact rest (d,p,_,b6) _ _ ⟨(o.trans C).trans G,(a2.ext C).ext G,a1,hT,Z hd⟩ sB
  have hp:¬ K.pf c=v:=Xu h;clear h;refine ρ ?_;refine Qw (c+1) sO ⟨O,a8.trans (GrN.ext J),((a9.ext J).same λj _=>?_).more om⟩ om;by_cases e:j=c
  .subst e;simp[hp]
  have:(decide (j<c+1))=decide (j<c):=by by_cases h1:j<c<;>simp[h1]<;>omega
  rw[this]
 have aw:c=K.f:=by have:=oF h;omega
 subst aw;clear h;refine ρ ?_;refine Uj ⟨rfl,a8,a9.same λj hj=>?_⟩;simp[hj]
theorem Qvn(hF:SeF K)(hS:SeV K w y S st M B)(hyf:y.length<K.f)(hs:S y.length=true):
  Ret Tryz.prog 140 [.pointer (some ⟨K.sb,0,none⟩)] w λu w'=>(∃ d p,u=.agg #[.bool d,.pointer p]/\TrV (λ_=>False) K.w0 (K.t y.length y) (.pointer p)/\(K.t y.length y≠.nil->d=K.ds.getD y.length false))/\GrN (λk=>k=K.mb) w w'/\SeV K w' y (λc=>S c && !decide (c=y.length)) st M B:=by
 have ad:=hF.ip.f32;obtain⟨yv,m,fm,H,a2⟩:=id hS;obtain⟨d,p,a6,ht,hd⟩:=H.pd.1 y.length hyf hs;obtain⟨YA,yc,rfl,af,_⟩:=Jv H.row;refine enE Tryz.func140 Tryz.ntmps140 ?_;refine Jb Vn ?_;intro w1 b1 J ai ac;have Z:=H.ext' J;refine ldR (Z.blk.at (i:=6) rfl) ?_;refine ldR (Z.blk.at (i:=7) rfl) ?_;refine ρ ?_;refine mlk KI Z.map Vn (Jqp (c:=y.length) om) ?_;rw[a6];refine Jb Vn ?_;intro w2 b2 O a7 ab;refine Xa ab ?_;intro w3 aa ah a1;have o:Ext w1 w3:=a1 w1 O a7;have H3:=Z.ext' o;refine ldR (H3.blk.at (i:=7) rfl) ?_;refine ρ ?_;refine mdn KI H3.map (Jqp (c:=y.length) om) ?_;intro w4 a8 a5;have C:GrN (λk=>k=K.mb) w3 w4:=GrN.by a5 λk j=>by injection j with j;exact j.symm
 have ae:K.mb<w.heap.size:=H.map.lt;have l1:=J.size;have l2:=O.size;have n1:¬ b1=K.mb:=om
 have n2:¬ b2=K.mb:=om
 have U:=Jy aa C n2;refine Qy U ?_;refine Xa (Jy (ac.ext o) C n1) ?_;intro w5 a9 a4 ag;have a3:GrN (λk=>k=K.mb) w w4:=((GrN.ext J).trans (GrN.ext o)).trans C;have G:GrN (λk=>k=b1) w4 w5:=GrN.by a4 λk j=>by injection j with j;exact j.symm
 have D:GrN (λk=>k=K.mb) w w5:=((a3.mono λk _ j=>(.inl j:k=K.mb∨k=b1)).trans (G.mono λk _ j=>.inr j)).mono λk j h=>h.elim id λe=>by omega
 refine ρ ?_;refine Kx a9 ⟨⟨d,p,rfl,ht,hd⟩,D,_,m,_,H.to hF D (a8.gr G (λe=>n1 e.symm)) H.mle (H.pd.drop ad hyf),a2⟩
theorem Qvp(hF:SeF K)(hS:SeV K w y S st M B)(hM:M<=4096)(hyf:y.length<K.f)(v:V)(hg:K.X.Gp (y++[v]))(hSp:∀ c,c<K.f->S c=true->K.pf c<(y.length:Int)):
  Ret Tryz.prog 142 [.pointer (some ⟨K.sb,0,none⟩),v.val] w λu w'=>u=.tuple #[]/\GrN (λk=>k<B) w w'/\SeV K w' (y++[v]) (λc=>S c || decide (K.pf c=(y.length:Int))) st (M+K.f) w'.heap.size:=by
 have ap:=hF.ip.f32;obtain⟨yv,m,fm,H,a3⟩:=id hS;obtain⟨YA,yc,rfl,ak,U⟩:=Jv H.row;refine enE Tryz.func142 Tryz.ntmps142 ?_;refine bxR (cs:=v.cells) ?_;intro w1 b1 a4 ao ag;have Z:Ext w1 w1.drew:=(Ext.refl w1).drew;have Hd:=H.ext' (a4.trans Z);have aa:=ag.ext Z;have n1:¬ (Value.slice YA y.length yc).ownBlock=some b1:=λe=>by have:=(U b1 e).2;omega
 have ns:¬ (Value.slice YA y.length yc).ownBlock=some K.sb:=λe=>(Blk.ne_own Hd.blk Hd.row rfl) e.symm;refine ρ ?_;refine drN (λk=>(Value.slice YA y.length yc).ownBlock=some k) 10 (scq 11 [6,7,110]) kr ?_;refine ρn ?_;refine nld (Js (Hd.blk.at (i:=6) rfl) ns) ?_;refine ρn ?_;refine Xp (cs:=v.cells) (λw' hg j u hu=>(Jy aa hg n1).at hu) ?_;refine ρn ?_;refine nop ?_;refine bsl (Jvp v) ?_;intro w2 b2 a1 an af;refine ρ ?_;refine Je (GrN.ext a1) ?_;have H2:=Hd.ext' a1;refine nop ?_;have a5:K.w1.heap.size<=w2.heap.size:=H2.gr.size;refine apb (m':=1) (news:=v.cells) EV H2.row (af.rd (n:=1) rfl) (V.one _) (by unfold maxLen;omega) om a5 ?_;intro aj J a2 a8 am;obtain⟨Y3,c3,rfl,ai,ah⟩:=Jv a2;refine ρ ?_;refine Je (GrN.by a8 λk hk=>hk) ?_;refine ρn ?_;refine Xh ?_;have C:GrN (λk=>(Value.slice YA y.length yc).ownBlock=some k) w2 J:=GrN.by a8 λk hk=>hk
 have G:=Jy H2.blk C ns;refine sto (G.at (i:=6) rfl) (G.frozen 6) ?_;have D:Blk (J.setCell ((⟨K.sb,0,none⟩:Addr).add 6) (.slice Y3 (y.length+1) c3)) K.sb 241 (sCs K (.slice Y3 (y.length+1) c3) st):=G.set 6 _;have o:GrN (λk=>k=K.sb) J (J.setCell ((⟨K.sb,0,none⟩:Addr).add 6) (.slice Y3 (y.length+1) c3)):=GrN.set _ rfl;have ae:MapS Tryz.prog 3 J K.mb m fm:=H2.map.gr C (λe=>by have:=(U _ e).1;have:=hF.m2;omega);have a9:=ae.gr o (λe=>hF.nsm e.symm);have a6:=Ja a2 o λg eg e=>by rw[e]at eg;exact(Blk.ne_own G a2 rfl) eg.symm
 have O:GrN (λk=>k=K.mb) K.w1 (J.setCell ((⟨K.sb,0,none⟩:Addr).add 6) (.slice Y3 (y.length+1) c3)):=by
  have h1:=((H2.gr.mono λk _ h=>(.inl h:k=K.mb∨K.w1.heap.size<=k)).trans (C.mono λk _ h=>(.inr (U k h).1:k=K.mb∨K.w1.heap.size<=k))).trans (o.mono λk _ h=>(.inr (by rw[h];exact hF.s1):k=K.mb∨K.w1.heap.size<=k));exact h1.mono λk hk h=>h.elim id λh'=>by omega
 have ab:K.mb<B:=by have:=hF.m2;have:=hF.s1;have:=a3.1;omega
 have a7:GrN (λk=>k<B) w (J.setCell ((⟨K.sb,0,none⟩:Addr).add 6) (.slice Y3 (y.length+1) c3)) :=
  ((GrN.ext ((a4.trans Z).trans a1)).trans (C.mono λk _ h=>a3.2 k h)).trans (o.mono λk _ h=>by rw[h];exact a3.1)
 generalize (J.setCell ((⟨K.sb,0,none⟩:Addr).add 6) (.slice Y3 (y.length+1) c3))=w4 at D o a9 a6 O a7
 have ad:SeV K w4 (y++[v]) S st M w4.heap.size:=by
  refine⟨_,m,fm,⟨O,D,?_,a9,H.mle,H.pd.app hF hSp [v]⟩,D.lt,λg eg=>(Jv a6).elim λ_ h=>h.elim λ_ h=>(h.2.2 g eg).2⟩;grind [List.length_append,List.length_singleton,rowC_app',Jr]
 refine ω5 ?_;refine Gy ?_;refine ρn ?_;refine ldR (D.at (i:=6) rfl) ?_;refine clR (Qvr hF ad hM hg (by simp;omega) (v:=((y.length+1:Nat):Int)-1) (by simp)) ?_;rintro u w5 ⟨rfl,ac,h5⟩;refine ρ ?_;refine Uj ⟨rfl,a7.trans (ac.mono λk _ h=>by rw[h];exact ab),h5.top.same λc hc=>?_⟩;grind
theorem Qvq(hF:SeF K)(hS:SeV K w y S st M B):
  Ret Tryz.prog 143 [.pointer (some ⟨K.sb,0,none⟩)] w λu w'=>NatV w' u (K.X.prodS S y)/\Fresh w u/\Ext w w':=by
 have b3:=hF.ip.f32;obtain⟨yv,m,fm,H,ay⟩:=id hS;obtain⟨g,hg⟩:∃ g:(Lit->Bool)->Nat->Nat,g=λleft c=>if S c=true/\left (.int .i64 (c:Int))=false then K.X.T c y else 1:=⟨_,rfl⟩
 have ao:∀ left c,g left c<=4294967296^20:=λleft c=>by
  rw[hg];simp only;split
  .rw[K.T];exact hF.ip.big _ _
  repeat grind
 have am:∀ left,Nb (Jh K.f (g left)):=λleft=>Nb.pow (k:=K.f) (Jjz (Nat.pow_pos (by decide)) λc _=>ao left c) om;refine enE Tryz.func143 Tryz.ntmps143 ?_;refine clR (Jbm 1 (by decide) _) ?_;rintro G w1 ⟨a6,aa,D⟩;refine ldR ((H.blk.ext D).at (i:=7) rfl) ?_;refine ρ ?_;refine rngm KI (H.map.ext D) ?_;intro w2 r cnt U a5 ac;have lr:w.heap.size<=r:=nL D.size a5;refine ρ ?_;refine Zq (fun (left:Lit->Bool) (cnt:Nat) (G:Value)=>[(0,.pointer (some ⟨K.sb,0,none⟩)),(3,G),(11,.pointer (some ⟨r,0,none⟩))])
  (λleft cnt G w'=>Ext w w'/\RgS Tryz.prog 3 w' K.mb r m fm left cnt/\NatX (λk=>k=r) w' G (Jh K.f (g left))/\Fresh w G) (λ_ cnt _=>cnt) _ cnt G sB ⟨D.trans U,ac,?_,aa⟩ ?_
 .have e:Jh K.f (g λkl=>(fm kl).isSome)=1:=Jfz λc hc=>by
   rw[hg];simp only;rw[if_neg];rintro⟨h1,h2⟩;obtain⟨d,p,h3,_⟩:=H.pd.1 c hc h1;rw[h3]at h2;cases h2
  rw[e];exact(NatX.old (N:=λ_=>False) ⟨a6,λ_ _ _ _ _ h=>h⟩ λk hk=>.inr (by rw[hk];exact a5)).ext U
 clear a6 aa ac U D G cnt;rintro left cnt G w3 ⟨a2,au,Z,ap⟩;refine ρ ?_;refine nxtm KI au (λhl=>?_) (λkey v kl w4 ae ax az a9 ab an a7 aq=>?_)
 .refine ρ ?_;have e:Jh K.f (g left)=K.X.prodS S y:=Gv λc hc=>by grind
  rw[e]at Z;exact Jj ⟨Z.1,ap,a2⟩
 obtain⟨c,hc,a4,rfl⟩:=H.pd.2 kl (by rw[a9];simp);obtain⟨d,p,J,ht,_⟩:=H.pd.1 c hc a4;rw[a9]at J;injection J with J
 subst J;have O:Ext w w4:=a7.old a2 λk hk=>by rw[hk];exact lr
 refine ρ ?_;refine entm aq ?_;refine Jb Vn ?_;intro w5 b5 ah ar aw;refine Xa aw ?_;intro w6 av b1 ag;have o:Ext w4 w6:=ag w4 ah ar;refine Qy av ?_;refine ρ ?_;have a3:Ext K.w0 w6:=(hF.ext H.gr).trans (O.trans o);refine cl (Jdm (ht.ext a3) (by rw[<-K.T];exact Nb.pow (k:=1) (by rw[Nat.pow_one,K.T];exact hF.ip.big _ _) om)) ?_;rintro ut w7 ⟨ai,b2,C⟩;have ak:NatV w7 G (Jh K.f (g left)):=(((Z.gr a7).ext o).ext C).1;refine clR (Jzj ak ai (am left).len (Nb.len (Nb.pow (k:=1) (by rw[Nat.pow_one];exact hF.ip.big _ _) om))) ?_;rintro ur w8 ⟨aj,a8,a1⟩;refine ρ ?_;refine Xj _ ae ur sO ⟨((O.trans o).trans C).trans a1,((ab.ext o).ext C).ext a1,?_,λad m c e=>?_⟩ an
 .have af:r<w7.heap.size:=nM (ab.lt) (o.trans C).size;have e:Jh K.f (g λz=>left z && !z.sameKey (.int .i64 (c:Int)))=Jh K.f (g left)*(K.t c y).sum:=by
   rw[Jwj hc,Jwj (g:=g left) hc];have h1:g left c=1:=by grind
   have h2:g (λz=>left z && !z.sameKey (.int .i64 (c:Int))) c=(K.t c y).sum:=by
    rw[hg];simp only;rw[if_pos ⟨a4,by rw[WideAt.sameKey_self (Jbv om)];simp⟩,K.T]
   rw[h1,h2,Nat.one_mul,Nat.mul_comm];congr 1
   refine Gv λj hj=>?_;by_cases ej:j=c
   .rw[if_pos ej,if_pos ej]
   rw[if_neg ej,if_neg ej,hg];simp only;have:(Lit.int .i64 (j:Int)).sameKey (.int .i64 (c:Int))=false:=Maps.sameKey_ne λe'=>ej (Jbq e');grind
  rw[e];exact a8.x aj λk hk=>by rw[hk];exact af
 exact nL (((O.trans o).trans C).size) (a8 ad m c e)
end
open Go.RowKit Pl Go.Wk
attribute [local irreducible] WH
variable {L:List Row}{B0 c f k m pc:Nat}{pf:Nat->Int}{BB:Nat->List BkT}{y z:Row}{x:Value}{w w0:World}
def pS(pf:Nat->Int)(m q:Nat)(c:Nat): Bool:=decide (m<=c) && decide (pf c<(q:Int))
theorem Jtq(K:SeK)(m:Nat)(y:Row): K.X.prodS (pS K.pf m m) y=K.X.pend m y:=Gv λc _=>by
 simp only[pS,Bool.and_eq_true,decide_eq_true_eq];rfl
theorem Jtr(K:SeK)(m:Nat)(y:Row): K.X.prodS (pS K.pf (m+1) m) y=K.X.others m y:=Gv λc _=>by
 simp only[pS,Bool.and_eq_true,decide_eq_true_eq];rfl
theorem Jgg: (pS pf m m c && !decide (c=m))=pS pf (m+1) m c:=by grind [pS]
theorem Jgh(hp:pf c<(c:Int)): (pS pf (m+1) m c || decide (pf c=(m:Int)))=pS pf (m+1) (m+1) c:=by
 unfold pS;grind
def hmB(bs:List BkT): Nat:=bs.foldl (λm b=>max m b.2.ht) 0
theorem foldl_max{bs:List BkT}: ∀ {m:Nat},m<=bs.foldl (λm b=>max m b.2.ht) m/\∀ b∈bs,b.2.ht<=bs.foldl (λm b=>max m b.2.ht) m:=by
 induction bs with
 | nil=>intro m;exact⟨nR _,λb i=>by cases i⟩
 | cons a bs ih=>
  grind
theorem Jrb(bs:List BkT)(k:Row): (trK bs k).ht<=hmB bs:=by
 unfold trK;cases hf:bs.find? λb=>decide (b.1=k) with
 | none=>exact Nat.zero_le _
 | some b=>exact foldl_max.2 b (List.mem_of_find?_eq_some hf)
def wiL(L:List Row)(y:Row): List Row:=L.filter λx=>decide (x.take y.length=y)
theorem Xzz(A B C D E F:Option Addr)(a b c d e f a' b' c' d' e' f':Nat)(mb:Nat)(w:World): (Instr.build 241 #[(0,.agg #[.slice A a a',.slice B b b',.slice C c c',.slice D d d',.slice E e e']),(1,.slice F f f'),(3,.map (some mb))]).run Tryz.prog w=.ok (.agg #[.slice A a a',.slice B b b',.slice C c c',.slice D d d',.slice E e e',.slice F f f',.slice none 0 0,.map (some mb),.int .i64 0]) w:=kr
section
variable {f:Nat} {ds:List Bool} {kf:Nat->Nat} {pf:Nat->Int} {BB:Nat->List BkT} {tot:Nat} {L:List Row}
theorem Xvd(tb:TB B0 w)(ix:IxV w x f ds kf pf BB tot)(ip:IxP f ds kf pf BB tot L)(ne:tot≠0):
  Ret Tryz.prog 139 [x] w λu w'=>∃ K:SeK,(K.w0=w/\K.f=f/\K.ds=ds/\K.kf=kf/\K.pf=pf/\K.BB=BB/\K.tot=tot/\K.L=L)/\u=.pointer (some ⟨K.sb,0,none⟩)/\SeF K/\SeV K w' [] (pS K.pf 0 0) 0 32 w'.heap.size/\Ext w w':=by
 obtain⟨DA,dc,BA,cb,KA,ck,PA,cp,tv,af,ae,rfl,ai,aj,hD,hB,hK,hP,a7,ag⟩:=id ix.ex;obtain⟨TA,tc,rfl,_⟩:=id a7;refine enE Tryz.func139 Tryz.ntmps139 ?_;refine bxR ?_;intro w1 b a6 hb ab;have a2:Ext w1 w1.drew:=(Ext.refl w1).drew;have a4:=ab.ext a2;have C:=a6.trans a2;refine ρ ?_;refine drG kr ?_;refine Vk (fuel':=5) [(0,0),(0,1)] #[true,true,false,false,false,false,false] kr kr rfl ?_;refine Qn (cs:=[.slice DA f dc,.slice BA f cb,.slice KA f ck,.slice PA f cp,.slice TA (Jq tot).length tc]) (λj u hu=>a4.at hu) ?_;refine Qn (cs:=[.slice DA f dc,.slice BA f cb,.slice KA f ck,.slice PA f cp,.slice TA (Jq tot).length tc]) (λj u hu=>a4.at hu) ?_;refine ρd ?_;refine Vw ?_;refine gcut 3 #[true,true,true,true,false,false,false] (fun (q:Option Addr×Nat×Nat)=>[(4,.agg #[.slice DA f dc,.slice BA f cb,.slice KA f ck,.slice PA f cp,.slice TA (Jq tot).length tc]),(6,.slice q.1 f q.2.1),(7,.map (some q.2.2))])
  (λq W=>Ext w1.drew W/\f<=q.2.1/\w1.drew.heap.size<=q.2.2/\MapS Tryz.prog 3 W q.2.2 0 (λ_=>none)/\Off (λk=>k=q.2.2) W (λu=>Rd u 3 q.1 f (Qe f (Qp kf pf)))) ?_ ?_
 .rintro⟨A,c,O⟩ w2 ⟨o,D,hm,J,G⟩;simp only at D hm J G;refine Vk (fuel':=0) [(1,4),(1,5),(0,6)] #[true,true,true,true,true,true,true] kr kr rfl ?_;refine Gf ?_;refine bld (Xzz _ _ _ _ _ _ _ _ _ _ _ _ _ _ _ _ _ _ _ _) ?_;refine Jf (Gd (Ext.refl _) ?_);refine Gf ?_;refine bx ?_;intro w3 sb i a8 a3;refine Jf (Gd i ?_);refine ρd ?_;refine Vw ?_;refine gend kr ?_;obtain⟨K,hK⟩:∃ K:SeK,K=⟨B0,w,w2,O,sb,.slice DA f dc,.slice BA f cb,.slice KA f ck,.slice PA f cp,.slice TA (Jq tot).length tc,A,c,f,ds,kf,pf,BB,tot,L⟩:=⟨_,rfl⟩;have Z:SeF K:=by
   subst hK;exact⟨tb,ix,ip,ne,C.trans o,Nat.le_trans C.size hm,J.lt,a8,D,G,Qjk⟩
  have hV:SeV K w3 [] (λ_=>false) 0 0 w3.heap.size:=by
   subst hK;exact⟨.slice none 0 0,0,λ_=>none,⟨GrN.ext i,a3,Zc _ _ _ _,J.ext i,Nat.le_refl _,λc _ h=>(by cases h),λkl h=>absurd rfl h⟩,a3.lt,λg eg=>by simp[Value.ownBlock]at eg⟩
  have a5:K.w0=w/\K.f=f/\K.ds=ds/\K.kf=kf/\K.pf=pf/\K.BB=BB/\K.tot=tot/\K.L=L:=by grind
  have ac:sb=K.sb:=by subst hK;rfl
  have a1:=(C.trans o).trans i;have em:w.heap.size<=K.mb:=by rw[<-a5.1];exact Z.m1
  have ak:K.f<=32:=Z.ip.f32;subst ac;refine clR (Qvr Z hV om AX.Gp.nil (by simp) (v:=-1) rfl) ?_;rintro u w4 ⟨rfl,a9,aa⟩;refine ρ ?_;refine Jj ⟨K,a5,rfl,Z,(aa.top.same λc D=>?_).more om,a9.old a1 λk hk=>by rw[hk];exact em⟩;have:=Z.ip.par Z.ne D;unfold pS;grind
 intro rest;refine Io 2 3 kr rfl rfl rfl ?_ ?_
 .refine clR (Jhq (ix.ext C)) ?_;rintro u w2 ⟨⟨A,c,rfl,D,hR,hf⟩,o⟩;refine Jf (Yv o ?_);refine Vk (fuel':=3) [(1,3)] #[true,true,true,true,false,false,false] kr kr rfl ?_;refine Gf ?_;refine mkm 3 ?_;intro w3 O i U J;refine Jf (Gd i ?_);refine Zf (Vw ?_);refine rest (A,c,O) _ _ ⟨o.trans i,D,Nat.le_trans o.size U,J,Jwg (hR.ext i) λh0 ad e (e2:ad.block=O)=>?_⟩ sB;have e:A=some ad:=e;obtain⟨am,e',ah⟩:=hR.2 h0;grind
 refine ρ ?_;refine mkm 3 ?_;intro w2 O o U J;refine Jf (Yv o ?_);refine Vk (fuel':=3) [(1,2)] #[true,true,true,true,false,false,false] kr kr rfl ?_;refine Gf ?_;refine cl (Jhq (ix.ext (C.trans o))) ?_;rintro u w3 ⟨⟨A,c,rfl,D,hR,hf⟩,i⟩;refine Jf (Gd i ?_);refine Zf (Vw ?_);refine rest (A,c,O) _ _ ⟨o.trans i,D,U,J.ext i,Jwg hR λh0 ad e (e2:ad.block=O)=>?_⟩ sB;have:=hf ad e;have:=J.lt;omega
end
section
variable {K:SeK} {w:World} {y:Row} {S:Nat->Bool} {st M B:Nat}
theorem SeV.steps(hF:SeF K)(h:SeV K w y S st M B)(k:Nat): SeV K (w.setCell ((⟨K.sb,0,none⟩:Addr).add 8) (.int .i64 ((st+k:Nat):Int))) y S (st+k) M B/\GrN (λk=>k=K.sb) w (w.setCell ((⟨K.sb,0,none⟩:Addr).add 8) (.int .i64 ((st+k:Nat):Int))):=by
 obtain⟨yv,m,fm,H,o⟩:=h;have i:GrN (λk=>k=K.sb) w (w.setCell ((⟨K.sb,0,none⟩:Addr).add 8) (.int .i64 ((st+k:Nat):Int))):=GrN.set _ rfl;refine⟨⟨yv,m,fm,⟨?_,H.blk.set 8 _,Ja H.row i λg j e=>?_,H.map.gr i λe=>hF.nsm e.symm,H.mle,H.pd⟩,o⟩,i⟩
 .exact((H.gr.mono λk _ h=>(.inl h:k=K.mb∨k=K.sb)).trans (i.mono λk _ h=>.inr h)).mono λk u h=>h.elim id λe=>by have:=hF.s1;omega
 rw[e]at j;exact(Blk.ne_own H.blk H.row rfl) j.symm
theorem SeF.pnb(hF:SeF K)(m:Nat)(z:Row): Nb (K.X.pend m z):=by
 refine Nb.pow (k:=K.f) (Jjz (Nat.pow_pos (by decide)) λc _=>?_) hF.ip.f32;split
 .rw[K.T];exact hF.ip.big _ _
 repeat grind
theorem SeV.ext0(h:SeV K w y S st M B)(hF:SeF K): Ext K.w0 w:=by
 obtain⟨yv,m,fm,H,_⟩:=h;exact hF.ext H.gr
theorem SeF.has(hF:SeF K)(hc:c<K.f){d:Bool}(hd:K.t c z≠.nil->d=K.ds.getD c false)(v:V):
  Tr.hasT d v (K.t c z)=true↔v∈(K.X.E c (K.X.key c z)).map (·.1):=by
 rw[K.E];by_cases h:K.t c z=.nil
 .rw[h];simp[Tr.hasT,Tr.toL]
 have i:Jjj d (K.t c z).toL:=by
  rw[hd h,<-K.E];exact(hF.ip.srt hF.ne).srt c hc _
 exact(Tr.befT_eq i).2
end
def AcR(f:Nat)(BB:Nat->List BkT)(L:List Row)(y:Row)(k:Nat)(u:Value)(w:World): Prop:=match(wiL L y)[k]? with
 | some r=>∃ A c,∃ st:Nat,u=.tuple #[.slice A r.length c,.int .i64 (st:Int),.int .i64 0]/\RdR w A r/\r.length<=c/\r.length=f/\st<=Qd f λv=>hmB (BB v)
 | none=>u=.tuple #[.slice none 0 0,.int .i64 0,.int .i64 3]
theorem AcR.none(h:(wiL L y)[k]?=none): AcR f BB L y k (.tuple #[.slice none 0 0,.int .i64 0,.int .i64 3]) w:=by
 unfold AcR;rw[h]
def AcRF(w0:World)(f:Nat)(BB:Nat->List BkT)(L:List Row)(y:Row)(k:Nat)(u:Value)(w:World): Prop:=match(wiL L y)[k]? with
 | some r=>∃ A c,∃ st:Nat,u=.tuple #[.slice A r.length c,.int .i64 (st:Int),.int .i64 0]/\RdR w A r/\r.length<=c/\r.length=f/\(st<=Qd f λv=>hmB (BB v))/\(r≠[]->∀ ad,A=some ad->w0.heap.size<=ad.block)
 | none=>u=.tuple #[.slice none 0 0,.int .i64 0,.int .i64 3]
theorem AcRF.none(h:(wiL L y)[k]?=none): AcRF w0 f BB L y k (.tuple #[.slice none 0 0,.int .i64 0,.int .i64 3]) w:=by
 unfold AcRF;rw[h]
section
variable {f:Nat} {ds:List Bool} {kf:Nat->Nat} {pf:Nat->Int} {BB:Nat->List BkT} {tot:Nat} {L:List Row}
theorem IxP.wi_none(ip:IxP f ds kf pf BB tot L)(ne:tot≠0)(hg:¬ (Xz f kf pf BB).Gp y): wiL L y=[]:=by
 unfold wiL;rw[ip.ans ne];exact AX.within_none hg
theorem IxP.wi_some(ip:IxP f ds kf pf BB tot L)(ne:tot≠0)(hy:y.length<=f)(hg:(Xz f kf pf BB).Gp y): wiL L y=(Xz f kf pf BB).ext (f-y.length) y:=by
 unfold wiL;rw[ip.ans ne];exact(ip.srt ne).within hy hg
theorem IxP.nbP(ip:IxP f ds kf pf BB tot L)(m:Nat)(z:Row): Nb ((Xz f kf pf BB).pend m z):=by
 refine Nb.pow (k:=f) (Jjz (Nat.pow_pos (by decide)) λc _=>?_) ip.f32;split
 .rw[Qvd];exact ip.big _ _
 repeat grind
theorem IxP.nbT(ip:IxP f ds kf pf BB tot L): Nb tot:=by
 by_cases h:tot=0
 .rw[h];exact(ip.nbP 0 []).le (Nat.zero_le _)
 rw[<-ip.pend0 h];exact ip.nbP 0 []
theorem Xvc{kv:Value}{PA:Option Addr}(tb:TB B0 w)(ix:IxV w x f ds kf pf BB tot)(ip:IxP f ds kf pf BB tot L)(hO:tot≠0->∀ z,(Xz f kf pf BB).Gp z->z.length<f->0<(Xz f kf pf BB).pend z.length z->(Xz f kf pf BB).others z.length z<4294967296)(hy:RdR w PA y)(hk:NatV w kv k):
  Ret Tryz.prog 89 [x,.slice PA y.length pc,kv] w λu w'=>Ext w w'/\(f<y.length->u=.tuple #[.slice none 0 0,.int .i64 0,.int .i64 6])/\(y.length<=f->AcRF w f BB L y k u w'):=by
 obtain⟨DA,dc,BA,cb,KA,ck,di,cp,tv,ew,er,rfl,fc,fd,hD,hB,hK,hP,dt,f2⟩:=id ix.ex;obtain⟨TA,tc,rfl,_⟩:=id dt;obtain⟨kA,bi,rfl,_⟩:=id hk;have fi:=ip.f32;refine enE Tryz.func89 Tryz.ntmps89 ?_;refine bxR ?_;intro w1 b ah hb av;refine Qy av ?_;refine clR (Jhp (ix.ext ah)) ?_;rintro u w2 ⟨rfl,a4⟩;refine ciR (λh=>?_) (λh=>?_)
 .have f6:f<y.length:=by have:=oT h;omega
  refine ρ ?_;exact Zz ⟨ah.trans a4,λ_=>rfl,λh=>om⟩
 have c4:y.length<=f:=by grind
 clear h;refine Qy (av.ext a4) ?_;refine clR (Jhm (ix.ext (ah.trans a4)) ip.nbT) ?_;rintro u w3 ⟨cg,_,ay⟩;have Z:=(ah.trans a4).trans ay;obtain⟨UA,uc,rfl,_⟩:=id cg;refine ciR (λh=>?_) (λh=>?_)
 .have h0:tot=0:=by
   have:=Zx h;grind [Nat.eq_zero_or_pos,tot,limbs_pos']
  refine ρ ?_;refine Zz ⟨Z,λh=>om,λ_=>AcRF.none ?_⟩;have:L=[]:=List.eq_nil_of_length_eq_zero (by rw[<-ip.len];exact h0);rw[this];rfl
 have ne:tot≠0:=λe=>by
  have:=Xu h;grind [limbs_0]
 clear h;refine Qy ((av.ext a4).ext ay) ?_;refine clR (Xvd (tb.ext Z) (ix.ext Z) ip ne) ?_;rintro u w4 ⟨K,⟨e0,rfl,rfl,rfl,rfl,rfl,rfl,rfl⟩,rfl,C,d7,dq⟩;have U:Ext w K.w0:=by rw[e0];exact Z
 have ec:Blk K.w0 b 55 [.slice DA K.f dc,.slice BA K.f cb,.slice KA K.f ck,.slice di K.f cp,.slice TA (Jq K.tot).length tc]:=by rw[e0];exact(av.ext a4).ext ay
 clear e0 av ah a4 ay Z cg;have bp:∀ c,c<K.f->K.pf c<(c:Int):=λc hc=>(C.ip.par ne hc).2;have b2:K.X.Ok:=C.ip.ok ne;have cx:∀ v z,(K.t v z).ht<=hmB (K.BB v):=λv z=>Jrb _ _;have ba:∀ v z,(K.t v z).ht<=65536:=λv z=>nL (Tr.ht_le _) (C.ip.siz _ _);have am:∀ v z,Nb (K.t v z).sum:=λv z=>Nb.pow (k:=1) (by rw[Nat.pow_one];exact C.ip.big _ _) om;have cj:∀ v z,(K.t v z).sz<=1000000:=λv z=>nL (C.ip.siz _ _) (by decide);refine ρ ?_;refine Jo (fun (i:Nat) (st:Nat)=>[(2,.slice kA (Jq k).length bi),(3,.pointer (some ⟨b,0,none⟩)),(6,.slice none 0 0),(7,.int .i64 0),(8,.int .i64 0),(9,.pointer (some ⟨K.sb,0,none⟩)),(35,.slice PA y.length pc),(36,.int .i64 (y.length:Int)),(37,.int .i64 (i:Int))])
  (λi st w'=>i<=y.length/\K.X.Gp (y.take i)/\SeV K w' (y.take i) (pS K.pf i i) st (32*(i+1)) w'.heap.size/\st<=Qd i (λv=>hmB (K.BB v))/\st<=65536*i) (λi _=>y.length-i) 0 0 sB
  ⟨Nat.zero_le _,AX.Gp.nil,d7,Nat.le_refl _,Nat.le_refl _⟩ ?_
 clear d7 dq w4;rintro i st w5 ⟨hi,ao,G,bo,bn⟩;have bj:=U.trans (G.ext0 C);have an:(y.take i).length=i:=by rw[List.length_take];omega
 refine ciR (λh=>?_) (λh=>?_)
 .have li:i<y.length:=by have:=oT h;omega
  have e7:i<K.f:=om
  clear h;have c6:=Rd.ext hy bj;refine Qs 3 i c6 li ?_;refine Jt (cs:=(y.getD i V0).cells) (λj u' ai=>RdR.cell c6 li ai) ?_;refine Jb (cs:=V0.cells) Gj ?_;intro w6 dh J d5 aw;refine Qb (cs':=(y.getD i V0).cells) aw ?_ (V.one _);intro w7 ed bw a3;have c8:Ext w5 w7:=a3 w5 J d5;have a9:Ext w7 w7.drew:=(Ext.refl w7).drew;have a1:=(G.ext c8).ext a9;have bf:=ed.ext a9;have eg:K.mb<w5.heap.size:=by obtain⟨_,_,_,H,_⟩:=G;exact H.map.lt
  have b4:¬ dh=K.mb:=om
  refine ρ ?_;refine drN (λk=>k=K.mb) 10 [(0,0),(0,2),(1,1),(1,3),(0,4),(0,5),(0,6),(0,7),(0,8),(0,9),(0,10)] kr ?_;refine ρn ?_;refine Xp (cs:=(y.getD i V0).cells) (λw' hg j u hu=>(Jy bf hg b4).at hu) ?_;refine ρn ?_;refine nop ?_;refine cl (Qvn C a1 om (by grind [pS])) ?_;rintro u w8 ⟨⟨d,p,rfl,hT,hd⟩,cz,b3⟩;rw[an]at hT hd b3;refine ρ ?_;refine Je cz ?_;refine ρn ?_;refine nop ?_;refine cl (Qwr (hT.ext (b3.ext0 C)) (am _ _) (cj _ _)) ?_;rintro u w9 ⟨sv,q,rfl,hq,f3,aa⟩;refine ρ ?_;refine Je (GrN.ext aa) ?_;refine ρn ?_;have d2:=C.has e7 (z:=y.take i) hd (y.getD i V0);refine ciR (λh=>?_) (λh=>?_)
  .have e1:¬ K.X.Gp y:=λhg=>by
    have h1:=hg i li;grind
   refine ρ ?_;refine Zz ⟨U.trans ((b3.ext aa).ext0 C),λh=>om,λ_=>AcRF.none ?_⟩;rw[C.ip.wi_none ne e1];rfl
  have c5:Tr.hasT d (y.getD i V0) (K.t i (y.take i))=true:=by grind
  clear h;have co:=d2.1 c5;have aq:=b3.ext aa;have c0:=(Jy bf cz b4).ext aa;obtain⟨yv,mm,fm,H9,cq⟩:=id aq;refine ldR (H9.blk.at (i:=8) rfl) ?_;have dw:=cx i (y.take i);have dv:=ba i (y.take i);refine Xk (H9.blk.at (i:=8) rfl) (H9.blk.frozen 8) ?_;obtain⟨be,bb⟩:=aq.steps C q;obtain⟨ac,b7⟩:∃ ac,ac=w9.setCell ((⟨K.sb,0,none⟩:Addr).add 8) (.int .i64 ((st+q:Nat):Int)):=⟨_,rfl⟩;have bm:w9.setCell ((⟨K.sb,0,none⟩:Addr).add 8) (.int .i64 ((st:Int)+(q:Int)))=ac:=b7.symm;rw[<-b7]at be bb;have bh:¬ dh=K.sb:=λe=>by have:=cq.1;omega
  have dg:=Jy c0 bb bh;refine Eq.mpr (congrArg _ bm) ?_;refine Jt (cs:=(y.getD i V0).cells) (λj u' ai=>dg.at ai) ?_;have ch:y.take (i+1)=y.take i++[y.getD i V0]:=Qr V0 li;have ab:K.X.Gp (y.take i++[y.getD i V0]):=ao.snoc (by rw[an];exact co);refine cl (Qvp C (be.same λc _=>Jgg) om om (y.getD i V0) ab (λc _ hs=>by
   rw[an];unfold pS at hs;grind)) ?_
  rintro u dk ⟨rfl,_,a2⟩;rw[<-ch,an]at a2;rw[<-ch]at ab;refine ρ ?_;refine Jl (i+1) (st+q) sO ⟨li,ab,(a2.same λc hc=>Jgh (bp c hc)).more om,?_,om⟩ om;rw[Qd];omega
 have e8:i=y.length:=by grind
 subst e8;clear h;rw[List.take_length]at ao G;refine clR (Qvq C G) ?_;rw[Jtq];rintro u w6 ⟨ce,d1,J⟩;refine clR (Va (hk.ext (bj.trans J)) ce) ?_;rintro u w7 ⟨rfl,a3⟩;have a1:=(G.ext J).ext a3;have cd:=C.ip.wi_some ne c4 ao;have cc:(wiL K.L y).length=K.X.pend y.length y:=by
  rw[cd];exact b2.ext_len _ y (by show y.length+(K.f-y.length)=K.f;omega)
 refine ciR (λh=>?_) (λh=>?_)
 .have e9:K.X.pend y.length y<=k:=by
   have:=oT h;rcases Nat.lt_or_ge k (K.X.pend y.length y) with h'|h'
   .have:=cmpN_lt.2 h';omega
   exact h'
  refine ρ ?_;exact Zz ⟨U.trans (a1.ext0 C),λh=>om,λ_=>AcRF.none (List.getElem?_eq_none (by rw[cc];exact e9))⟩
 have bv:k<K.X.pend y.length y:=by
  rcases Nat.lt_or_ge k (K.X.pend y.length y) with h'|h'
  .exact h'
  exact absurd (Int.not_lt.1 λee=>by have:=cmpN_lt.1 ee;omega) (oF h)
 clear h;obtain⟨r,hr⟩:∃ r,(wiL K.L y)[k]?=some r:=⟨_,List.getElem?_eq_getElem (by rw[cc];exact bv)⟩;have cw:NatX (λq=>q=K.mb) w7 (.slice kA (Jq k).length bi) k:=(NatX.old (N:=λ_=>False) ⟨hk,λ_ _ _ _ _ h=>h⟩ λq hq=>.inr (by rw[hq];exact nL U.size C.m1)).ext (U.trans (a1.ext0 C));refine ρ ?_;refine Jxh (fun (z:Row) (st:Nat) (o:Nat) (kv:Value)=>[(2,kv),(3,.pointer (some ⟨b,0,none⟩)),(6,.slice none 0 0),(7,.int .i64 0),(8,.int .i64 0),(9,.pointer (some ⟨K.sb,0,none⟩))])
  (λz st o kv w'=>z.length<=K.f/\K.X.Gp z/\o<K.X.pend z.length z/\(K.X.ext (K.f-z.length) z)[o]?=some r/\SeV K w' z (pS K.pf z.length z.length) st (32*(z.length+1)) w'.heap.size/\NatX (λq=>q=K.mb) w' kv o/\st<=Qd z.length (λv=>hmB (K.BB v))/\st<=65536*z.length) (λz _ _ _=>K.f-z.length) y st k (.slice kA (Jq k).length bi) sB
  ⟨c4,ao,bv,by rw[<-hr,cd];rfl,a1.top,cw,bo,bn⟩ ?_
 clear cw bv a1 a3 J d1 ce w7 w6 bo bn bj G w5 st an hi ao;rintro z st o kv w5 ⟨hz,cy,e6,ey,G,cv,bo,bn⟩;have a9:Ext w5 w5.drew:=(Ext.refl w5).drew;have au:=G.ext a9;obtain⟨yv,mm,fm,H,e3⟩:=id au;obtain⟨YA,yc,rfl,f0,_⟩:=Jv H.row;have ad:=au.ext0 C;have da:=ec.ext ad;refine drR (scq 8 [6]) ?_;refine Jz (H.blk.at (i:=6) rfl) ?_;refine Qn (cs:=[.slice DA K.f dc,.slice BA K.f cb,.slice KA K.f ck,.slice di K.f cp,.slice TA (Jq K.tot).length tc]) (λj u hu=>da.at hu) ?_;refine Jg (Jhp (ix.ext (U.trans ad))) ?_;rintro u w6 ⟨rfl,J⟩;refine⟨J,?_⟩;have d6:=au.ext J;have cr:=(cv.ext a9).ext J;clear da ad;refine ρd ?_;refine ciR (λh=>?_) (λh=>?_)
 .have lz:z.length<K.f:=by have:=oT h;omega
  clear h;refine clR (Qvn C d6 lz (by unfold pS;simp[bp _ lz])) ?_;rintro u w7 ⟨⟨d,p,rfl,hT,hd⟩,bw,a1⟩;refine Jb Vn ?_;intro w8 fj dn d4 de;refine Xa de ?_;intro w9 c0 f8 aa;have ae:Ext w7 w9:=aa w7 dn d4;have aq:SeV K w9 z (pS K.pf (z.length+1) z.length) st (32*(z.length+1)) w5.heap.size:=(a1.ext ae).same λc _=>Jgg;refine clR (Qvq C aq) ?_;rw[Jtr];rintro uo ac ⟨b9,ea,a7⟩;have a8:=b2.others_le lz (show 0<K.X.pend z.length z by omega);have eb:=hO ne z cy lz (show 0<K.X.pend z.length z by omega);have bu:NatV ac kv o:=(((cr.gr bw).ext ae).ext a7).1;have ak:Nb o:=(C.pnb z.length z).le om;refine clR (Qpf bu b9 ak.len a8.1 eb) ?_;rintro u dk ⟨⟨qv,rv,rfl,b8,cn⟩,a6⟩;refine ρ ?_;have hq:o / K.X.others z.length z<(K.t z.length z).sum:=by
   rw[Nat.div_lt_iff_lt_mul a8.1,<-K.T,<-b2.pend_split lz];exact e6
  have aw:=(c0.ext a7).ext a6;refine Qy aw ?_;refine ρ ?_;have a2:=(aq.ext a7).ext a6;refine cl (Xjj (hT.ext (a2.ext0 C)) b8 hq (am _ _) (cj _ _)) ?_;rintro u bg ⟨sv,n,rfl,hn,cm,ag⟩;refine Jb (cs:=V0.cells) Gj ?_;intro eo ef ca d3 db;refine Qb (cs':=(Tr.findT (o / K.X.others z.length z) (K.t z.length z)).1.cells) db ?_ (V.one _);intro dj df ei c9;have D:Ext bg dj:=c9 bg ca d3;obtain⟨l1,l2,yy,hL,br,e5,e4⟩:=Tr.findT_eq hq;have f5:=am z.length z;have dz:Nb (o / K.X.others z.length z):=ak.le (Nat.div_le_self _ _);have du:o / K.X.others z.length z-(Tr.findT (o / K.X.others z.length z) (K.t z.length z)).2<=o:=nL (Nat.sub_le _ _) (Nat.div_le_self _ _);refine clR (Qjt (b8.ext (ag.trans D)) (cm.ext D) dz.len) ?_;rintro u en ⟨⟨ov,rfl,dx,f9⟩,af⟩;rw[if_neg (show¬ o / K.X.others z.length z<(Tr.findT (o / K.X.others z.length z) (K.t z.length z)).2 by omega)];refine ρ ?_;have O:=(ag.trans D).trans af
  refine cl (Jzj dx (b9.ext (a6.trans O)) (ak.le du).len (Nb.len ((C.pnb z.length z).le a8.2))) ?_;rintro mv em ⟨e2,fa,a5⟩;have f7:(o / K.X.others z.length z-(Tr.findT (o / K.X.others z.length z) (K.t z.length z)).2)*K.X.others z.length z+o % K.X.others z.length z<=o:=by
   have h1:=Nat.div_add_mod o (K.X.others z.length z);have h2:=nO (K.X.others z.length z) (Nat.sub_le (o / K.X.others z.length z) (Tr.findT (o / K.X.others z.length z) (K.t z.length z)).2);grind
  refine clR (Ih e2 (cn.ext (O.trans a5)) (ak.le om).len (ak.le (Nat.mod_le _ _)).len) ?_;rintro c3 c2 ⟨bt,bz,b5⟩;have az:=(O.trans a5).trans b5;have bd:=a2.ext az;obtain⟨ek,eu,fh,c1,bq⟩:=id bd;have dw:=cx z.length z;have dv:=ba z.length z;refine ldR (c1.blk.at (i:=8) rfl) ?_;refine Xk (c1.blk.at (i:=8) rfl) (c1.blk.frozen 8) ?_;obtain⟨bc,ap⟩:=bd.steps C n;obtain⟨ax,b6⟩:∃ ax,ax=c2.setCell ((⟨K.sb,0,none⟩:Addr).add 8) (.int .i64 ((st+n:Nat):Int)):=⟨_,rfl⟩;have bl:c2.setCell ((⟨K.sb,0,none⟩:Addr).add 8) (.int .i64 ((st:Int)+(n:Int)))=ax:=b6.symm;rw[<-b6]at bc ap;have ep:w5.heap.size<=bg.heap.size:=nL (nL a9.size (J.size)) (nL bw.size (((ae.trans a7).trans a6).trans ag).size);have bh:¬ ef=K.sb:=λe=>by have:=bq.1;omega
  have dd:=Jy (df.ext ((af.trans a5).trans b5)) ap bh;refine Eq.mpr (congrArg _ bl) ?_;refine Jt (cs:=(Tr.findT (o / K.X.others z.length z) (K.t z.length z)).1.cells) (λj u' ai=>dd.at ai) ?_;have d9:K.X.E z.length (K.X.key z.length z)=l1++((Tr.findT (o / K.X.others z.length z) (K.t z.length z)).1,yy)::l2:=by rw[K.E];exact hL
  have aj:=b2.ext_at (n:=K.f-(z.length+1)) (y:=z) (by show z.length+(K.f-(z.length+1)+1)=K.f;omega) d9 a8.1 (by rw[br];exact e5) (by rw[br];exact e4);rw[br]at aj;have ab:K.X.Gp (z++[(Tr.findT (o / K.X.others z.length z) (K.t z.length z)).1]):=cy.snoc (by rw[d9];simp);have b1:(z++[(Tr.findT (o / K.X.others z.length z) (K.t z.length z)).1]).length=z.length+1:=by simp
  refine cl (Qvp C bc om lz _ ab (λc _ hs=>by
   unfold pS at hs;grind)) ?_
  rintro u el ⟨rfl,d0,d8⟩;refine ρ ?_;have bs:NatX (λq=>q=K.mb∨q<w5.heap.size) ax c3 _:=(bz.x (N:=λq=>q=K.mb∨q<w5.heap.size∨q=K.sb) bt λq hq=>by
   have h1:=(D.trans (af.trans a5)).size;have h2:=e3.1;rcases hq with h|h|h
   .rw[h];have:=G.ext0 C;obtain⟨_,_,_,H5,_⟩:=G;have:=H5.map.lt;omega
   .omega
   omega) |>.gr (ap.mono λq _ h=>.inr (.inr h)) |>.old λq hq=>.inl (by grind)
  refine Kf (z++[(Tr.findT (o / K.X.others z.length z) (K.t z.length z)).1]) (st+n) ((o / K.X.others z.length z-(Tr.findT (o / K.X.others z.length z) (K.t z.length z)).2)*K.X.others z.length z+o % K.X.others z.length z) c3 sO
   ⟨by rw[b1];omega,ab,by rw[b1];exact aj.2,?_,?_,(bs.gr (d0.mono λq _ h=>.inr h)).old λq hq=>.inl (.inl hq),?_,?_⟩ (by rw[b1];omega)
  .grind
  .rw[b1];exact(d8.same λc hc=>Jgh (bp c hc)).more om
  repeat grind [Qd]
 have ez:z.length=K.f:=by have:=oF h;omega
 clear h;have dm:Ext w6 w6.drew:=(Ext.refl w6).drew;have ar:=d6.ext dm;obtain⟨ej,et,fg,H3,eh⟩:=id ar;obtain⟨YB,yd,rfl,dl,_⟩:=Jv H3.row;refine drR [(0,0),(0,1),(0,2),(0,3),(0,5),(0,6),(0,7),(0,8),(1,4),(0,9),(0,10),(0,11)] ?_;refine Jz (H3.blk.at (i:=6) rfl) ?_;refine Jz (H3.blk.at (i:=8) rfl) ?_;refine Jg (Ua (r:=z) ⟨YB,yd,rfl,dl,om,Rd.own H3.row⟩ (λq=>q<w.heap.size) (λq hq=>nM hq (U.trans (ar.ext0 C)).size)) ?_;rintro u w7 ⟨⟨A7,c7,rfl,fe,_,ff,fb⟩,a3⟩;refine⟨a3,?_⟩;refine ρd ?_;refine ρ ?_;refine Zz ⟨U.trans ((ar.ext a3).ext0 C),λh=>om,λ_=>?_⟩;have f4:r=z:=by
  have e:K.f-z.length=0:=om
  grind [AX.ext]
 grind [AcRF,Nat.le_of_not_lt]
end
open Go.RowKit Pl Go.Wk
variable {k pc:Nat}
structure IxA(w:World)(x:Value)(f:Nat)(ds:List Bool)(kf:Nat->Nat)(pf:Nat->Int)(BB:Nat->List BkT)(tot:Nat)(L:List Row): Prop where
 tb:∃ B0,TB B0 w
 ix:IxV w x f ds kf pf BB tot
 ip:IxP f ds kf pf BB tot L
 ho:tot≠0->∀ z,(Xz f kf pf BB).Gp z->z.length<f->0<(Xz f kf pf BB).pend z.length z->(Xz f kf pf BB).others z.length z<4294967296
 hb:∀ v b,b∈BB v->b.2.ht<=65536
section
variable {w:World} {x:Value} {f:Nat} {ds:List Bool} {kf:Nat->Nat} {pf:Nat->Int} {BB:Nat->List BkT} {tot:Nat} {L:List Row}
theorem IxA.ext(h:IxA w x f ds kf pf BB tot L){w':World}(hx:Ext w w'): IxA w' x f ds kf pf BB tot L:=by
 obtain⟨i,ht⟩:=h.tb;exact⟨⟨i,ht.ext hx⟩,h.ix.ext hx,h.ip,h.ho,h.hb⟩
theorem Qbj(L:List Row): wiL L []=L:=by simp[wiL]
theorem Qbg(h:IxA w x f ds kf pf BB tot L){y:Row}{PA:Option Addr}{kv:Value}(hy:RdR w PA y)(hk:NatV w kv k):
  Ret Tryz.prog 89 [x,.slice PA y.length pc,kv] w λu w'=>Ext w w'/\(f<y.length->u=.tuple #[.slice none 0 0,.int .i64 0,.int .i64 6])/\(y.length<=f->AcRF w f BB L y k u w'):=by
 obtain⟨i,ht⟩:=h.tb;exact Xvc ht h.ix h.ip h.ho hy hk
def Jkj(w0:World)(f:Nat)(BB:Nat->List BkT)(L:List Row)(k:Nat)(u:Value)(w:World): Prop:=match L[k]? with
 | some r=>∃ A c,∃ st:Nat,u=.tuple #[.slice A r.length c,.int .i64 (st:Int),.int .i64 0]/\RdR w A r/\r.length<=c/\r.length=f/\(st<=Qd f λv=>hmB (BB v))/\(r≠[]->∀ ad,A=some ad->w0.heap.size<=ad.block)
 | none=>u=.tuple #[.slice none 0 0,.int .i64 0,.int .i64 3]
theorem Xwl(h:IxA w x f ds kf pf BB tot L){kv:Value}(hk:NatV w kv k):
  Ret Tryz.prog 31 [x,kv] w λu w'=>Ext w w'/\Jkj w f BB L k u w':=by
 obtain⟨DA,dc,BA,cb,KA,ck,PA,cp,tv,J,G,rfl,U,Z,hD,hB,hK,hP,C,O⟩:=id h.ix.ex;obtain⟨TA,tc,rfl,_⟩:=id C;refine enE Tryz.func31 Tryz.ntmps31 ?_;refine bxR ?_;intro w1 b i hb D;refine Qy D ?_;refine clR (Qbg (y:=[]) (PA:=none) (pc:=0) (h.ext i) Rd.nil (hk.ext i)) ?_;rintro u w2 ⟨o,_,h2⟩;have j:=h2 (Nat.zero_le _);unfold AcRF at j;rw[Qbj]at j;cases hr:L[k]? with
 | none=>
  rw[hr]at j;simp only at j;subst j;refine ρ ?_;refine Zz ⟨i.trans o,?_⟩;unfold Jkj;rw[hr]
 | some r=>
  rw[hr]at j;simp only at j;obtain⟨A,c,st,rfl,h5,h6,h7,h8,h9⟩:=j;refine ρ ?_;refine Zz ⟨i.trans o,?_⟩;unfold Jkj;rw[hr];exact⟨A,c,st,rfl,h5,h6,h7,h8,λh0 ad e=>nL i.size (h9 h0 ad e)⟩
end
end Go.Proofs.YtgobkbeokaaplaaGreatDoor
namespace Go.Proofs.YtgobkbeokaaplaaGreatDoor
open Go.RowKit Pl Go.Wk _root_.Go.Proofs.Tryz
attribute [local irreducible] WC WL QX WD WDB WP
variable {a b:Row}{va vb vd:Value}{w:World}
theorem Qkz: ∀(x y:List UInt8),(Lib.compareBytes x y<0)↔Op.bytesLess x y=true
 | [],[]=>by simp[Lib.compareBytes,Op.bytesLess]
 | [],_::_=>by simp[Lib.compareBytes,Op.bytesLess]
 | _::_,[]=>by simp[Lib.compareBytes,Op.bytesLess]
 | a::x,b::y=>by
  have ih:=Qkz x y;simp only[Lib.compareBytes,Op.bytesLess];grind
def eqv(a b:V): Bool:=(a.kind == b.kind) && (a.num == b.num) && (a.str.toList == b.str.toList)
theorem V.bytes_eq(a:V): a.str.toList=a.bytes:=by rw[V.bytes,ByteArray.toList_eq]
theorem Qzd(a b:V): eqv a b=true↔a=b:=by
 unfold eqv;simp only[Bool.and_eq_true,beq_iff_eq];grind [V.ext,V.bytes_eq]
theorem eqV(a b:V)(w:World): (binOp .eql 147 a.val b.val).run prog w=.ok (.bool (eqv a b)) w:=by
 rw[V.val,V.val,run_eql_struct,run_equalIn_agg w 9999 147 _ _ kr kr];have e:∃ f1 j i:Field,(prog.fieldsOf 147).toList=[f1,j,i]/\(f1.name≠"_"/\f1.type=3/\f1.offset=0)/\(j.name≠"_"/\j.type=2/\j.offset=1)/\(i.name≠"_"/\i.type=9/\i.offset=2) :=
  ⟨_,_,_,rfl,⟨by decide,rfl,rfl⟩,⟨by decide,rfl,rfl⟩,⟨by decide,rfl,rfl⟩⟩
 obtain⟨f1,j,i,h0,⟨n1,J,Z⟩,⟨n2,G,U⟩,⟨n3,D,O⟩⟩:=e;rw[h0];simp only[Op.eqFields,if_pos n1,if_pos n2,if_pos n3,J,G,D,Z,U,O,Sem.run_bind];have C:∀ v:V,(part 3 #[.int .i64 v.kind,.int .i64 v.num,.string v.str] 0).run prog w=.ok (.int .i64 v.kind) w:=λv=>run_part_plain w kr rfl;have u:∀ v:V,(part 2 #[.int .i64 v.kind,.int .i64 v.num,.string v.str] 1).run prog w=.ok (.int .i64 v.num) w:=λv=>run_part_plain w kr rfl;have o:∀ v:V,(part 9 #[.int .i64 v.kind,.int .i64 v.num,.string v.str] 2).run prog w=.ok (.string v.str) w:=λv=>run_part_plain w kr rfl;rw[C a];simp only[Result.andThen_ok];rw[C b];simp only[Result.andThen_ok];rw[run_equalIn_int w 9998 3 .i64 .i64 _ _ kr];simp only[Result.andThen_ok];unfold eqv;cases h1:(a.kind == b.kind) with
 | false=>simp
 | true=>
  simp only[Bool.not_true,Bool.false_eq_true,if_false,Bool.true_and,Sem.run_bind];rw[u a];simp only[Result.andThen_ok];rw[u b];simp only[Result.andThen_ok];rw[run_equalIn_int w 9998 2 .i64 .i64 _ _ kr];simp only[Result.andThen_ok];cases h2:(a.num == b.num) with
  | false=>simp
  | true=>
   simp only[Bool.not_true,Bool.false_eq_true,if_false,Bool.true_and,Sem.run_bind];rw[o a];simp only[Result.andThen_ok];rw[o b];simp only[Result.andThen_ok];rw[run_equalIn_string w 9998 9 _ _ kr];simp only[Result.andThen_ok];cases h3:(a.str.toList == b.str.toList)<;>simp
theorem Jsg(a b:Int): sgn a b<0↔a<b:=by grind [sgn]
def Im(a b:V): Bool:=decide (a.kind<b.kind) || ((a.kind == b.kind) && (decide (a.num<b.num) || ((a.num == b.num) && Op.bytesLess a.str.toList b.str.toList)))
theorem Qqp(a b:V): Im a b=true↔cmpV a b<0:=by
 unfold Im cmpV;by_cases h:a.kind=b.kind
 .rw[if_neg (not_not_intro h)];by_cases h2:a.num=b.num
  .rw[if_neg (not_not_intro h2),Qkz,<-V.bytes_eq,<-V.bytes_eq];simp[h,h2]
  rw[if_pos h2,Jsg];grind
 rw[if_pos h,Jsg];grind
theorem Qhr(a b:V)(w:World): Ret prog 150 [a.val,b.val] w λr w'=>r=.int .i64 (cmpV a b)/\Ext w w':=by
 refine enE func150 ntmps150 ?_;refine bxR ?_;intro w1 b1 G a3 o;refine bxR ?_;intro Z b2 D a2 C;have o:=o.ext D;have J:=G.trans D;refine Jt (cs:=a.cells) (λj u O=>o.at O) ?_;refine Jt (cs:=b.cells) (λj u O=>C.at O) ?_;refine ρ ?_;refine weqs kr (eqV a b Z) ?_;refine ciR (λh=>?_) (λh=>?_)
 .refine ρ ?_;have:=(Qzd a b).1 h;subst this;exact Jj ⟨by rw[Vg],J⟩
 have a1:cmpV a b≠0:=λe=>by
  have:=(Qzd a b).2 (cmp_V.zero _ _ e);rw[h]at this;cases this
 refine ρ ?_;refine Yj (fun (t:Bool)=>[(40,.bool t)]) (λt U=>t=Im a b/\U=Z) ?_ ?_
 .refine ld (o.at (i:=0) rfl) ?_;refine ldR (C.at (i:=0) rfl) ?_;refine ρ ?_;refine ki 13 (λh1=>?_) (λh1=>?_)
  .refine ρ ?_;exact Jd true sB ⟨by unfold Im;rw[h1];rfl,rfl⟩
  refine ldR (o.at (i:=0) rfl) ?_;refine ldR (C.at (i:=0) rfl) ?_;refine ρ ?_;refine ki 19 (λh2=>?_) (λh2=>?_)
  .refine ldR (o.at (i:=1) rfl) ?_;refine ldR (C.at (i:=1) rfl) ?_;refine ρ ?_;refine ki 25 (λh3=>?_) (λh3=>?_)
   .refine ρ ?_;exact Jd true sB ⟨by grind [Im],rfl⟩
   refine ldR (o.at (i:=1) rfl) ?_;refine ldR (C.at (i:=1) rfl) ?_;refine ρ ?_;refine ki 31 (λh4=>?_) (λh4=>?_)
   .refine ldR (o.at (i:=2) rfl) ?_;refine ldR (C.at (i:=2) rfl) ?_;refine ρ ?_;exact Jd _ sB ⟨by grind [Im],rfl⟩
   refine ρ ?_;exact Jd false sB ⟨by grind [Im],rfl⟩
  refine ρ ?_;exact Jd false sB ⟨by grind [Im],rfl⟩
 rintro t U ⟨rfl,rfl⟩;refine ρ ?_;have h3:=Qkd a b;refine ci (λh=>?_) (λh=>?_)
 .have:=(Qqp a b).1 h;refine ρ ?_;refine Jj ⟨?_,J⟩;grind
 have:¬ cmpV a b<0:=by grind [Qqp]
 refine ρ ?_;refine Jj ⟨?_,J⟩;grind
theorem Jtg{ds:List Bool}(ha:RowV w va a)(hb:RowV w vb b)(hd:BoolsV w vd ds):
  Ret prog 93 [va,vb,vd] w λr w'=>(∃ c:Int,r=.int .i64 c/\(c<0↔Jw a b ds<0)/\(c=0↔a=b))/\Ext w w':=by
 obtain⟨A,ac,rfl,ag,af,ha⟩:=ha;obtain⟨B,bc,rfl,ae,ad,hb⟩:=hb;obtain⟨D,dc,rfl,ab,aa,hd⟩:=hd;refine enE func93 ntmps93 ?_;refine ρ ?_;refine Qv (λk=>[(0,.slice A a.length ac),(1,.slice B b.length bc),(2,.slice D ds.length dc),(7,.int .i64 ((k:Nat):Int))])
  (λk w'=>Ext w w'/\k<=a.length/\k<=b.length/\Jw a b ds=Jw (a.drop k) (b.drop k) (ds.drop k)) (λk=>a.length-k) 0 sB ⟨Ext.refl w,Nat.zero_le _,Nat.zero_le _,rfl⟩ ?_
 rintro k w1 ⟨hx,a9,a8,he⟩;have a6:=ha.ext hx;have a5:=hb.ext hx;have O:∀ c:Int,c=Jw a b ds->(c<0↔Jw a b ds<0)/\(c=0↔a=b):=λc hc=>by grind [Jkc,Uq]
 have U:(a.length<=k∨b.length<=k)->(((a.length:Int)-(b.length:Int)<0↔Jw a b ds<0)/\((a.length:Int)-(b.length:Int)=0↔a=b)):=λh=>by grind [Qkk,Jw,Jkc,Uq,Nat.lt_trichotomy]
 refine ρ ?_;refine ki 13 (λh=>?_) (λh=>?_)
 .have G:k<a.length:=by have:=oT h;omega
  refine ciR (λh=>?_) (λh=>?_)
  .have C:k<b.length:=by have:=oT h;omega
   refine drR (scq 10 [8]) ?_;have o:Ext w1 w1.drew:=(Ext.refl w1).drew;have a4:=a6.ext o;have a3:=a5.ext o;refine Ka 3 k a4 G ?_;refine Qn (λj u hu=>RdR.cell a4 G hu) ?_;refine Ka 3 k a3 C ?_;refine Qn (λj u hu=>RdR.cell a3 C hu) ?_;refine Jg (Qhr (a.getD k V0) (b.getD k V0) _) ?_;rintro x w2 ⟨rfl,Z⟩;refine⟨Z,?_⟩;have i:Ext w w2:=(hx.trans o).trans Z;have a2:=hd.ext i;refine ρd ?_;refine ρ ?_;have step:=Qkm (ds:=ds) G C;have a7:∀ d,neg d (cmpV (a.getD k V0) (b.getD k V0))=0↔cmpV (a.getD k V0) (b.getD k V0)=0:=λd=>by cases d<;>simp[neg]
   refine Yj (fun (t:Bool)=>[(0,.slice A a.length ac),(1,.slice B b.length bc),(2,.slice D ds.length dc),(7,.int .i64 ((k:Nat):Int)),(8,.int .i64 (cmpV (a.getD k V0) (b.getD k V0))),(39,.bool t)]) (λt w3=>t=ds.getD k false/\w3=w2) ?_ ?_
   .refine ki 34 (λh=>?_) (λh=>?_)
    .have a1:k<ds.length:=by have:=oT h;omega
     refine ixR k a2 a1 ?_;refine ldR (RdB.cell a2 a1) ?_;refine ρ ?_;exact Jd _ sB ⟨rfl,rfl⟩
    have h1:ds.getD k false=false:=by grind
    refine ρ ?_;exact Jd false sB ⟨h1.symm,rfl⟩
   rintro t w3 ⟨rfl,rfl⟩;refine ρ ?_;have more:∀ c:Int,c=neg (ds.getD k false) (cmpV (a.getD k V0) (b.getD k V0))->c≠0->c=Jw a b ds:=λc hc h0=>by grind
   refine ci (λh1=>?_) (λh1=>?_)
   .refine ρ ?_;rw[Jnn];rw[h1]at more;refine ci (λh=>?_) (λh=>?_)
    .refine ρ ?_;exact Jj ⟨⟨_,rfl,O _ (more _ rfl (Kn h))⟩,i⟩
    refine ρ ?_;refine Qw (k+1) sB ⟨i,om,om,?_⟩ om;grind
   refine ρ ?_;rw[h1]at more;refine ci (λh=>?_) (λh=>?_)
   .refine ρ ?_;exact Jj ⟨⟨_,rfl,O _ (more _ rfl (Kn h))⟩,i⟩
   refine ρ ?_;refine Qw (k+1) sB ⟨i,om,om,?_⟩ om;grind
  have J:=U (by grind);refine ρ ?_;exact Jj ⟨⟨_,rfl,J⟩,hx⟩
 have J:=U (by grind);refine ρ ?_;exact Jj ⟨⟨_,rfl,J⟩,hx⟩
theorem Jfh(ha:RowV w va a)(hb:RowV w vb b):
  Ret prog 43 [va,vb] w λr w'=>r=.bool (decide (a=b))/\Ext w w':=by
 obtain⟨A,O,rfl,C,u,_⟩:=id ha;obtain⟨B,J,rfl,o,j,_⟩:=id hb;refine enE func43 ntmps43 ?_;refine ρ ?_;refine ki 10 (λh=>?_) (λh=>?_)
 .refine clR (Jtg ha hb (BoolsV.nil w none 0)) ?_;rintro x D ⟨⟨c,rfl,_,G⟩,i⟩;refine ρ ?_;refine Jj ⟨?_,i⟩;grind
 refine ρ ?_;refine Jj ⟨?_,Ext.refl w⟩;rw[decide_eq_false (λe=>by grind)]
open Go.RowKit Pl Go.Wk
variable {v vd vr:Value}{w w0:World}
theorem RowV.ones{ps:List Pr}(h:∀ p∈ps,RowV w p.1 p.2): ∀ u∈ps.map (·.1),u.oneCell'=true:=by
 intro u i;obtain⟨p,j,rfl⟩:=List.mem_map.1 i;exact(h p j).one
theorem Qmq{e sz m:Nat}{xs:List Value}(h:w.ownsRow w0.heap.size e sz v m xs): Fresh w0 v:=λj n c e=>by
 rcases h.2 with⟨i,_⟩|⟨g,cap,cur,i,hb,_⟩
 repeat grind
theorem Jtf{l:List Row}{r:Row}{ds:List Bool}(hl:RowsV w v l)(hr:RowV w vr r)(hd:BoolsV w vd ds)(hlt:Lt ds l)(hlen:l.length<=1000000):
  Ret Tryz.prog 103 [v,vr,vd] w λx w'=>RowsV w' x (Zt ds l r)/\Ext w w'/\(x=v∨Fresh w x):=by
 obtain⟨ps,A,c,rfl,rfl,h3,h4,h5,h6⟩:=id hl;have hn:ps.length<=1000000:=by simpa using hlen
 obtain⟨B,bc,a9,ak,aj,ai⟩:=id hr;refine enE Tryz.func103 Tryz.ntmps103 ?_;refine ρ ?_;refine Qv (λk=>[(0,.slice A ps.length c),(1,vr),(2,vd),(7,.int .i64 ((k:Nat):Int))])
  (λk w'=>Ext w w'/\k<=ps.length/\∀ i,i<k->Jw ((ps.map (·.2)).getD i []) r ds<0) (λk=>ps.length-k) 0 sB ⟨Ext.refl w,Nat.zero_le _,λi hi=>om⟩ ?_
 rintro k w1 ⟨C,hk,G⟩;refine ρ ?_;refine Yj (fun (t:Bool)=>[(0,.slice A ps.length c),(1,vr),(2,vd),(7,.int .i64 ((k:Nat):Int)),(22,.bool t)])
  (λt w2=>Ext w1 w2/\t=decide (k<ps.length/\Jw ((ps.map (·.2)).getD k []) r ds<0)) ?_ ?_
 .refine ki 13 (λh=>?_) (λh=>?_)
  .have hlt:k<ps.length:=by have:=oT h;omega
   refine ixR k (h5.ext C) hlt ?_;refine ldR ((h5.ext C).cell (Kh hlt)) ?_;refine clR (Jtg ((h6 _ (getD_mem' z0 ps hlt)).ext C) (hr.ext C) (hd.ext C)) ?_;rintro x w2 ⟨⟨cc,rfl,ah,ag⟩,a1⟩;refine ρ ?_;refine Jd _ sB ⟨a1,?_⟩;grind
  have hlt:¬ k<ps.length:=by have:=oF h;omega
  refine ρ ?_;exact Jd false sB ⟨Ext.refl _,(dF (λh=>hlt h.1)).symm⟩
 rintro t w2 ⟨a1,rfl⟩;have j:=C.trans a1;refine ciR (λh=>?_) (λh=>?_)
 .obtain⟨hlt,hc⟩:=oT h;refine ρ ?_;refine Qw (k+1) sB ⟨j,om,λi hi=>?_⟩ om;grind
 have aa:=oF h;obtain⟨a6,af⟩:=Jfx hlt (r:=r) (k:=k) (by simpa using hk) (by grind) (by grind);refine ρ ?_;refine Yj (fun (t:Bool)=>[(0,.slice A ps.length c),(1,vr),(7,.int .i64 ((k:Nat):Int)),(36,.bool t)])
  (λt w3=>Ext w2 w3/\t=decide (r∈ps.map (·.2))) ?_ ?_
 .refine ki 29 (λh=>?_) (λh=>?_)
  .have hlt:k<ps.length:=by have:=oT h;omega
   refine ixR k (h5.ext j) hlt ?_;refine ldR ((h5.ext j).cell (Kh hlt)) ?_;refine clR (Jfh ((h6 _ (getD_mem' z0 ps hlt)).ext j) (hr.ext j)) ?_;rintro x w3 ⟨rfl,Z⟩;refine ρ ?_;refine Jd _ sB ⟨Z,?_⟩;grind
  have hlt:¬ k<ps.length:=by have:=oF h;omega
  refine ρ ?_;refine Jd false sB ⟨Ext.refl _,(dF (λh=>?_)).symm⟩;grind
 rintro t w3 ⟨Z,rfl⟩;have o:=j.trans Z;refine ciR (λh=>?_) (λh=>?_)
 .have a2:=oT h;refine ρ ?_;refine Jj ⟨?_,o,.inl rfl⟩;unfold Zt;rw[if_pos a2];exact hl.ext o
 have a2:=oF h;have U:=RowV.ones h6;refine Qk Qwh ?_;intro w4 b a8 an ad;have O:=o.trans a8;refine ρ ?_;refine slh k ?_;refine ρ ?_;refine apo (a:=w) O ER (ad.own (n:=0) (by have:=o.size;omega) rfl (Nat.zero_le _)) ((h5.ext O).take (m:=k) hk) (λu hu=>U u (List.mem_of_mem_take hu)) (by unfold maxLen;omega) om ?_;intro v5 w5 a5 a7 _ _;rw[Nat.mul_one]at a5;refine Qk (λw=>Jvq vr w B _ bc a9) ?_;intro w6 b6 a4 am ac;refine ρ ?_;refine apo (a:=w) (a7.trans a4) ER (Jk a5 a4) ac.one (λu hu=>by rw[List.mem_singleton.1 hu];exact hr.one) (by unfold maxLen;omega) om ?_;intro v7 w7 ab a3 _ _;refine ρ ?_;refine sll k ?_;refine ρ ?_;refine apo (a:=w) a3 ER ab ((h5.ext a3).drop (k:=k) (c:=c) hk h3) (λu hu=>U u (List.mem_of_mem_drop hu)) (by unfold maxLen;omega) om ?_;intro v8 w8 J D _ _;rw[Nat.mul_one]at J;refine ρ ?_;refine Jj ⟨?_,D,.inr (Qmq J)⟩
 have e0:Zt ds (ps.map (·.2)) r=(ps.take k++[(vr,r)]++ps.drop k).map (·.2):=by
  unfold Zt;rw[if_neg a2,a6];simp
 have el:(ps.take k++[(vr,r)]++ps.drop k).length=0+k+1+(ps.length-k):=by simp;omega
 have ec:(ps.take k++[(vr,r)]++ps.drop k).map (·.1)=[]++(ps.map (·.1)).take k++[vr]++(ps.map (·.1)).drop k:=by simp
 rw[e0];obtain⟨A8,c8,rfl,ae,_⟩:=Jv J;refine⟨_,A8,c8,rfl,by rw[el],by rw[el];exact ae,by rw[el];omega,by rw[el,ec];exact Rd.own J,λp G=>?_⟩;simp only[List.mem_append,List.mem_singleton]at G;rcases G with(G|G)|G
 .exact(h6 p (List.mem_of_mem_take G)).ext D
 .rw[G];exact hr.ext D
 exact(h6 p (List.mem_of_mem_drop G)).ext D
end Go.Proofs.YtgobkbeokaaplaaGreatDoor
