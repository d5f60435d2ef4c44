/- Part 6. -/
import Derived.Test.YtbcdghbonlifdaaGreatDoorZ05
import Derived.ChangeKeysEq
set_option linter.unusedVariables false
set_option maxRecDepth 100000
set_option maxHeartbeats 40000000
namespace Go.Proofs.YtbcdghbonlifdaaGreatDoor
open Go.RowKit Pl Go.Wk
attribute [local irreducible] WC WL QX WD WDB WP WN WG
def Vp(n:Nat)(pf:Nat->Int)(T:Nat->Row->Nat)(ats:List Atm): Nat:=if ats.any (λa=>a.rows.isEmpty) then 0 else Jd n λv=>if pf v = -1 then T v [] else 1
theorem Qnp{n k:Nat}{g:Nat->Nat}(hk:k<n)(h:g k=0): Jd n g=0:=by
 rcases Nat.eq_zero_or_pos (Jd n g) with h'|h'
 .exact h'
 have:=prodR_pos.1 h' k hk;omega
theorem Jxg{S:Nat}(hS:1<=S): ∀ {n:Nat} {g:Nat->Nat},(∀ c,c<n->g c<=S)->Jd n g<=S^n
 | 0,_,_=>nR _
 | n+1,g,h=>by
  rw[Jd,Nat.pow_succ];exact Nat.mul_le_mul (Jxg hS λc hc=>h c om) (h n om)
theorem Qgh{B0 n f b cb cv ct:Nat}{kf:Nat->Nat}{pf:Nat->Int}{R:Nat->List Row}{vR Dv Pv Av Kv:Value}{BA VA TA:Option Addr}{wF w:World}{va ta:List Value}{T:Nat->Row->Nat}{ats:List Atm}{AR:Nat->Prop}(hF:FixW B0 n f kf pf R vR BA wF)(hW:BldW wF b n (bCs n f Dv Pv Av BA cb vR VA cv TA ct Kv) VA cv TA ct w va ta)(hAv:GV 3 AtG wF Av ats)(hpf:∀ c,c<n->pf c = -1∨∃ p:Nat,pf c=p)(hdv:∀ c,c<n->f<=c->DnV AR (T c) w (va.getD c (.map none)))(hdt:∀ c,c<n->c<f->DnT AR (T c) w (ta.getD c (.map none)))(hroot:∀ c,c<n->pf c = -1->f<=c->∀ k,0<T c k->k=[])(hT1:∀ c,f<=c->∀ k,T c k<=1)(hTb:∀ c k,T c k<=4294967296^20):
  Ret Tryz.prog 71 [.pointer (some ⟨b,0,none⟩)] w λu w'=>NatV w' u (Vp n pf T ats)/\Fresh w u/\Ext w w':=by
 have ae:Fresh w (.slice none 0 0):=λad m c e=>by cases e
 obtain⟨a6,hB,b2,bj⟩:=hW;have bo:=hF.n32;obtain⟨AA,ac,c4,rfl,c3,c2,bl,bm⟩:=hAv.parts;refine Jz Tryz.func71 Tryz.ntmps71 rfl kr rfl ?_;refine ρ ?_;refine ld (hB.at (i:=4) rfl) ?_;refine ρ ?_;refine Qf (fun (i:Nat)=>[(0,.pointer (some ⟨b,0,none⟩)),(2,.slice none 0 0),(12,.slice AA ats.length ac),(13,.int .i64 (ats.length:Int)),(14,.int .i64 (i:Int))])
  (λi w'=>i<=ats.length/\Ext w w'/\∀ j (hj:j<ats.length),j<i->ats[j].rows≠[]) (λi=>ats.length-i) 0 sB ⟨Nat.zero_le _,Ext.refl _,λj hj h=>om⟩ ?_
 rintro i w1 ⟨hi,a1,aw⟩;refine ρ ?_;refine ci (λh=>?_) (λh=>?_)
 .have li:i<ats.length:=by have:=oT h;omega
  clear h;have O:=a6.trans a1;obtain⟨ce,c1,⟨⟨t1,t2,t3⟩,rfl,b8⟩,ak⟩:=bm i li;obtain⟨⟨PA,pc,bc,br,bq,bp⟩,ba,a9⟩:=id b8;simp only at bc ba;obtain⟨a4,PG,a5,bn,b9,_⟩:=id a9;simp only at b9 bn;subst bc;subst ba;subst b9;have ab:∀ j u,([.slice PA ats[i].vars.length pc,.int .i64 (ats[i].ar:Int),.slice PG a4.length a5]:List Value)[j]?=some u->w1.cell? ((adr AA (i*3)).add j)=some u:=λj u hu=>Gb O (ak j u hu);refine ρ ?_;refine ixq 3 i (bl.ext O) li ?_;refine ρ ?_;refine lds (cs:=[.slice PA ats[i].vars.length pc,.int .i64 (ats[i].ar:Int),.slice PG a4.length a5]) ab ?_;refine ρ ?_;refine alc Yk ?_;intro w2 bb a8 am an;refine ρ ?_;refine stb (cs':=[.slice PA ats[i].vars.length pc,.int .i64 (ats[i].ar:Int),.slice PG a4.length a5]) an ?_ (Kg rfl);intro w3 b6 bz J;have Z:Ext w1 w3:=J w1 a8 am;refine ρ ?_;refine lds (cs:=[.int .i64 (ats[i].ar:Int),.slice PG a4.length a5]) (λj u hu=>b6.sub (i:=1) (j:=j) (by rw[Nat.add_comm];exact hu)) ?_
  refine ρ ?_;refine cl (Jkl (b8.ext (O.trans Z)).rel) ?_;rintro u w4 ⟨rfl,a7⟩;refine ρ ?_;refine ci (λh=>?_) (λh=>?_)
  .have h0:ats[i].rows.length=0:=by have:=Xa h;omega
   refine ρ ?_;refine Jj ⟨?_,ae,(a1.trans Z).trans a7⟩;grind [Vp,List.any_eq_true.2,List.getElem_mem,List.isEmpty_iff,List.eq_nil_of_length_eq_zero,NatV.nil]
  have h0:ats[i].rows.length≠0:=λe=>by have:=Zq h;omega
  refine ρ ?_;refine Qw (i+1) sO ⟨li,(a1.trans Z).trans a7,λj hj bs=>?_⟩ om;grind
 have bh:i=ats.length:=by grind
 clear h;have ag:ats.any (λa=>a.rows.isEmpty)=false:=by grind [List.any_eq_false,List.getElem_of_mem,List.isEmpty_iff.1]
 have ah:Vp n pf T ats=Jd n λv=>if pf v = -1 then T v [] else 1:=by unfold Vp;rw[ag];rfl
 rw[ah];clear ah ag aw bh;obtain⟨g,hg⟩:∃ g:Nat->Nat,g=λv=>if pf v = -1 then T v [] else 1:=⟨_,rfl⟩
 rw[<-hg];have ax:∀ v,g v<=4294967296^20:=λv=>by grind
 have bf:∀ k,k<=n->Nb (Jd k g):=λk hk=>Nb.pow (k:=k) (Jxg (Nat.pow_pos (by decide)) λc _=>ax c) om;have bi:∀ v,Nb (g v):=λv=>Nb.pow (k:=1) (by rw[Nat.pow_one];exact ax v) om;refine ρ ?_;refine cl (Jxt 1 (by decide) _) ?_;rintro vp w2 ⟨av,b1,a8⟩;have a2:=a1.trans a8;refine ρ ?_;refine ld ((hB.ext a2).at (i:=5) rfl) ?_;refine ρ ?_;refine Jt (fun (k:Nat) (vp:Value)=>[(0,.pointer (some ⟨b,0,none⟩)),(2,.slice none 0 0),(5,vp),(27,.slice BA n cb),(28,.int .i64 (n:Int)),(29,.int .i64 (k:Int))])
  (λk vp w'=>k<=n/\Ext w w'/\NatV w' vp (Jd k g)/\Fresh w vp) (λk _=>n-k) 0 vp sB ⟨Nat.zero_le _,a2,av,λad m c e=>nL a1.size (b1 ad m c e)⟩ ?_
 clear b1 av a2 a8 vp w2;rintro k vp w3 ⟨hk,J,a3,aj⟩;refine ρ ?_;refine ci (λh=>?_) (λh=>?_)
 .have lk:k<n:=by have:=oT h;omega
  clear h;have aa:∀ j u,(Qr kf pf k)[j]?=some u->w3.cell? ((adr BA (k*3)).add j)=some u:=λj u hu=>by
   have hj:j<3:=by grind [Nat.lt_or_ge,List.getElem?_eq_none,Qr]
   rw[Qo];exact(hF.bags.ext (a6.trans J)).cell ((Vh (sz:=3) (λ_ _=>rfl) lk hj).trans hu)
  refine ρ ?_;refine ixq 3 k (hF.bags.ext (a6.trans J)) lk ?_;refine ρ ?_;refine lds (cs:=Qr kf pf k) aa ?_;refine ρ ?_;refine alc zBag ?_;intro w4 bb a7 am an;refine ρ ?_;refine stb (cs':=Qr kf pf k) an ?_ Jks;intro w5 b5 bw bd;have D:Ext w3 w5:=bd w3 a7 am;have C:=J.trans D;refine ρ ?_;refine ld (b5.at (i:=2) rfl) ?_;refine ρ ?_;refine ci (λh=>?_) (λh=>?_)
  .have aw:pf k≠-1:=by have:=oT h;omega
   refine ρ ?_;refine Jf (k+1) vp sO ⟨lk,C,?_,aj⟩ om;have e:Jd (k+1) g=Jd k g:=by rw[Jd,hg];grind
   rw[e];exact a3.ext D
  have hp:pf k = -1:=by grind
  have ao:g k=T k []:=by grind
  have b7:=hB.ext C;refine ρ ?_;refine ld (b7.at (i:=1) rfl) ?_;refine ρ ?_;refine ci (λh=>?_) (λh=>?_)
  .have lf:k<f:=by have:=oT h;omega
   obtain⟨mb,m,fm,e1,e2,⟨e3,e4⟩,e5⟩:=hdt k lk lf;have ai:ta[k]?=some (.map (some mb)):=by grind
   have ap:Ext w5 w5.drew:=(Ext.refl w5).drew;have o:=C.trans ap;have b4:=(Rd.own bj).ext o;have af:FitR []:=⟨by simp,λv hv=>by cases hv⟩;refine ρ ?_;refine dr [(0,0),(0,1),(0,2),(0,3),(0,4),(0,5),(0,6),(0,7),(1,8),(0,9),(1,10),(0,11)] kr ?_;refine ρd ?_;refine dld ((hB.ext o).at (i:=8) rfl) ?_;refine ρd ?_;refine dix k b4 lk ?_;refine ρd ?_;refine dld (b4.cell ai) ?_;refine ρd ?_;refine dcl (Jzb (r:=[]) (A:=none) (c:=0) (hF.tb.ext (a6.trans o)) Rd.nil (λu hu=>by cases hu) (by have:=af.len;omega) (by simp)) ?_;rintro un w6 ⟨rfl,G⟩;refine⟨G,?_⟩;refine ρd ?_;refine dmlk KS (e3.ext (o.trans G)) zNat (Gt af) ?_;have au:NatV w6 ((fm (.string (idn []))).getD (.slice none 0 0)) (g k):=by
    rw[ao];rcases e5 []with⟨h6,h7⟩|⟨y,h6,h7,h8⟩
    .rw[h6,h7];exact NatV.nil _
    rw[h6];exact h8.1.ext (o.trans G)
   refine ρd ?_;refine dcl (Jbn (a3.ext ((D.trans ap).trans G)) au (bf k hk).len (bi k).len) ?_;rintro vr w7 ⟨be,ay,aq⟩;refine⟨aq,?_⟩;refine ρd ?_;refine ρ ?_;exact Jf (k+1) vr sO ⟨lk,(o.trans G).trans aq,be,λad m c e=>nL (o.trans G).size (ay ad m c e)⟩ om
  have lf:f<=k:=by have:=oF h;omega
  obtain⟨mb,m,fm,e1,e2,⟨e3,e4⟩,e5,e6⟩:=hdv k lk lf;have ai:va[k]?=some (.map (some mb)):=by
   rw[<-e1];have hl:=b2.1;simp[List.getD,List.getElem?_eq_getElem (show k<va.length by omega)]
  have b3:=(Rd.own b2).ext C;refine ρ ?_;refine ld (b7.at (i:=7) rfl) ?_;refine ρ ?_;refine ix k b3 lk ?_;refine ρ ?_;refine ld (b3.cell ai) ?_;refine ρ ?_;refine mln KS (e3.ext C) ?_;intro q hq;refine ρ ?_;refine ci (λh=>?_) (λh=>?_)
  .have h0:q=0:=by have:=Xa h;omega
   have h1:=hq.1 h0 (.string (idn []));rw[e5]at h1;have h2:T k []=0:=by
    rcases Nat.eq_zero_or_pos (T k []) with h'|h'
    .exact h'
    rw[if_pos h']at h1;cases h1
   refine ρ ?_;refine Jj ⟨?_,ae,C⟩;rw[Qnp lk (by rw[ao,h2])];exact NatV.nil _
  have h0:¬ q=0:=λe=>by have:=Zq h;omega
  have h1:0<T k []:=by
   refine Classical.byContradiction λh'=>h0 (hq.2 λkl=>?_);cases hfk:fm kl with
   | none=>rfl
   | some x=>
    obtain⟨r,rfl⟩:=e6 kl (by rw[hfk];simp);rw[e5]at hfk;split at hfk
    .rename_i hr;rw[hroot k lk hp lf r hr]at hr;exact absurd hr h'
    cases hfk
  refine ρ ?_;refine Jf (k+1) vp sO ⟨lk,C,?_,aj⟩ om;have h2:=hT1 k lf [];have e:Jd (k+1) g=Jd k g:=by rw[Jd,ao,show T k []=1 by omega,Nat.mul_one]
  rw[e];exact a3.ext D
 have bg:k=n:=by have:=oF h;omega
 rw[bg]at a3;refine ρ ?_;exact Jj ⟨a3,aj,J⟩
open Go.RowKit Pl Go.Wk
variable {d:Bool}{bs:List BkT}{bvs cs:List Value}{M N:Nat->Prop}{A BA DA KA:Option Addr}{bv tv x:Value}{w:World}
theorem DnB.old{N N':Nat->Prop}{d:Bool}{w:World}{x:Value}{bs:List BkT}(h:DnB N d w x bs)(hs:∀ k,N' k->N k∨w.heap.size<=k): DnB N' d w x bs:=by
 obtain⟨ps,A,c,h1,Z,O,J,u,G,o⟩:=h;refine⟨ps,A,c,h1,Z,O,J,u,λh0 ad e D=>?_,λp hp=>⟨(o p hp).1,(o p hp).2.old hs⟩⟩;rcases hs _ D with h'|h'
 .exact G h0 ad e h'
 have C:0<(Ju ps).length:=by rw[Jlx λp hp=>(o p hp).1];omega
 obtain⟨a1,e',hb,_⟩:=u.2 C;grind
theorem DnB.ext{N:Nat->Prop}{d:Bool}{w w':World}{x:Value}{bs:List BkT}(h:DnB N d w x bs)(hx:Ext w w'): DnB N d w' x bs:=h.gr (GrN.ext hx)
theorem DnB.nil(N:Nat->Prop)(d:Bool)(w:World): DnB N d w (.slice none 0 0) []:=⟨[],none,0,rfl,rfl,Nat.le_refl _,by simp,Rd.nil,λh=>absurd h (by simp),λp hp=>by cases hp⟩
theorem Xwp(w:World): (Instr.buildSlice 73 0 #[]).run Tryz.prog w=.ok (.slice (some ⟨w.heap.size,0,none⟩) 0 0) (w.alloc (.cells ([]:List Value).toArray 174)):=kr
theorem Qvv{n c:Nat}(hr:Rd w 3 A n cs)(h1:∀ u∈cs,u.oneCell'=true)(hb:n*24<=140737488355328):
  Ret Tryz.prog 115 [.slice A n c] w λv w'=>(∃ A' c',v=.slice A' n c'/\n<=c'/\Rd w' 3 A' n cs/\∀ ad,A'=some ad->w.heap.size<=ad.block)/\Ext w w':=by
 refine Jz Tryz.func115 Tryz.ntmps115 rfl kr rfl ?_;refine ρ ?_;refine Kw ?_;refine ρ ?_;refine ci (λh=>?_) (λh=>?_)
 .have hA:A=none:=by simpa using h
  subst hA;have hn:n=0:=by
   rcases Nat.eq_zero_or_pos n with h0|h0
   .exact h0
   obtain⟨ad,h2,_⟩:=hr.isome h0 om;cases h2
  subst hn;refine ρ ?_;exact Jj ⟨⟨none,0,rfl,Nat.le_refl _,hr,λad e=>by cases e⟩,Ext.refl w⟩
 refine ρ ?_;refine bsl Xwp ?_;intro w1 b C O J;refine ρ ?_;refine apo C EBg (J.own (n:=0) O rfl (Nat.zero_le _)) (hr.ext C) h1 (by unfold maxLen;omega) om ?_;intro v2 w2 o G _ _;obtain⟨A2,c2,rfl,D,Z⟩:=Jy o;refine ρ ?_;rw[Nat.zero_add]at o D ⊢;exact Jj ⟨⟨A2,c2,rfl,D,Rd.own o,λad e=>by subst e;exact(Z ad.block rfl).1⟩,G⟩
theorem Qkn(n:Nat)(kf:Nat->Nat)(pf:Nat->Int): ∀ u∈Qk n (Qr kf pf),u.oneCell'=true:=λu o=>by
 obtain⟨i,_,h⟩:=List.mem_flatMap.1 o;exact Jks u h
theorem Xzm(h:DnB N d w x bs)(hN:∀ k,N k->k<w.heap.size):
  Ret Tryz.prog 77 [x] w λu w'=>DnB N d w' u bs/\Ext w w':=by
 obtain⟨ps,A,c,rfl,rfl,hc,hl,hR,hA,am⟩:=h;refine Jz Tryz.func77 Tryz.ntmps77 rfl kr rfl ?_;refine ρ ?_;refine Jt (fun (i:Nat) (vl:Value)=>[(3,vl),(6,.slice A ps.length c),(7,.int .i64 (ps.length:Int)),(8,.int .i64 (i:Int))])
  (λi vl w'=>i<=ps.length/\Ext w w'/\∃ o:List (List Value×BkT),w'.ownsRow w.heap.size 93 3 vl o.length (Ju o)/\o.map (·.2)=(ps.map (·.2)).take i/\∀ q∈o,q.1.length=3/\BkE d (λk=>N k∨vl.ownBlock=some k) w' q.1 q.2) (λi _=>ps.length-i) 0 (.slice none 0 0) sB
  ⟨Nat.zero_le _,Ext.refl _,[],Zj _ _ _ _,rfl,λq hq=>by cases hq⟩ ?_
 rintro i vl w1 ⟨hi,a2,o,ae,a7,a6⟩;obtain⟨LA,lc,rfl,ay,J⟩:=Jy ae;have bc:o.length=i:=by have:=congrArg List.length a7;rw[List.length_map,List.length_take,List.length_map]at this;omega
 refine ρ ?_;refine ci (λh=>?_) (λh=>?_)
 .have li:i<ps.length:=by have:=oT h;omega
  clear h;obtain⟨z,hz⟩:∃ z,z=ps[i]:=⟨_,rfl⟩;have ar:z∈ps:=by rw[hz];exact List.getElem_mem li
  obtain⟨ba,ai⟩:=am z ar;have a4:∀ j u,z.1[j]?=some u->w1.cell? ((adr A (i*3)).add j)=some u:=λj u hu=>by
   have hj:j<3:=by have:=(List.getElem?_eq_some_iff.1 hu).1;omega
   rw[Qo];refine(hR.ext a2).cell ?_;rw[Ir (p:=z) (λp hp=>(am p hp).1) (by rw[hz];exact gE li) hj];exact hu
  obtain⟨kv,zq,ap,ab,aa⟩:=id ai;obtain⟨zp,rfl⟩:=aa.ptr;obtain⟨zc,zk,zt⟩:=z;simp only at ap ab aa a4 ai;subst ap;obtain⟨aq,ag,rfl,b8,b7,b9,_⟩:=id ab;refine ρ ?_;refine ixq 3 i (hR.ext a2) li ?_;refine ρ ?_;refine lds (cs:=[.slice aq zk.length ag,.bool d,.pointer zp]) a4 ?_;refine ρ ?_;refine alc Jdq ?_;intro w2 bb av b2 b3;refine ρ ?_;refine stb (cs':=[.slice aq zk.length ag,.bool d,.pointer zp]) b3 ?_ (Jbk rfl);intro w3 ao bd au;have a1:Ext w1 w3:=au w1 av b2;have a5:Ext w3 w3.drew:=(Ext.refl w3).drew;have a8:=a2.trans (a1.trans a5);have a9:=ao.ext a5;have an:¬ (Value.slice LA o.length lc).ownBlock=some bb:=λe=>by have:=(J bb e).2;omega
  refine ρ ?_;refine drN (λk=>(Value.slice LA o.length lc).ownBlock=some k) 10 [(0,0),(0,1),(0,2),(0,4),(0,5),(1,3),(0,6),(1,7),(1,8),(0,9)] kr ?_;refine ρn ?_;refine nld (Jl (a9.at (i:=0) rfl) an) ?_;refine ρn ?_;refine Xl (cs:=[.bool d,.pointer zp]) (λw' hg j u hu=>Jl (a9.sub (i:=1) (j:=j) (by rw[Nat.add_comm];exact hu)) (by rw[Ya];exact an) w' hg) ?_;refine ρn ?_;refine nop ?_;refine cl (Jvj (r:=zk) (ab.v.ext a8) (λk=>N k∨(Value.slice LA o.length lc).ownBlock=some k) λk O=>?_) ?_
  .rcases O with Z|Z
   .exact nM (hN k Z) a8.size
   exact nM (J k Z).2 (a1.trans a5).size
  rintro kv w4 ⟨ak,aj⟩;obtain⟨D,C,rfl,_⟩:=id ak;refine ρ ?_;refine Jm (GrN.ext aj) ?_;refine ρn ?_;refine Ig (Qys _ D _ C d zp rfl) ?_;refine ρn ?_;refine nop ?_;refine bsl (Qyk _ D _ C d zp rfl) ?_;intro w5 b5 ac be b4;refine ρ ?_;refine Jm (GrN.ext ac) ?_;refine ρn ?_;refine nop ?_;have G:Ext w1 w5:=((a1.trans a5).trans aj).trans ac;have a3:=a2.trans G;refine apb (m':=1) (news:=[.slice D zk.length C,.bool d,.pointer zp]) EBk (Jk ae G) (b4.rd (n:=1) rfl) (Jbk rfl) (by unfold maxLen;omega) om a3.size ?_;intro v6 w6 aw af ax;have b6:∀ g,(Value.slice LA o.length lc).ownBlock=some g->g<w5.heap.size:=λg eg=>nM (J g eg).2 G.size;refine ρ ?_;refine Jm (GrN.by af λg eg=>eg) ?_;refine ρn ?_;refine ρ ?_;have key:∀ p:List Value×BkT,BkE d (λk=>N k∨(Value.slice LA o.length lc).ownBlock=some k) w5 p.1 p.2->BkE d (λk=>N k∨v6.ownBlock=some k) w6 p.1 p.2:=λp h1=>by
   have h2:BkE d (λk=>(N k∨(Value.slice LA o.length lc).ownBlock=some k)∨v6.ownBlock=some k) w5 p.1 p.2:=h1.old λk O=>by
    rcases O with Z|Z
    .exact .inl Z
    rcases ax k Z with h''|h''
    .exact .inl (.inr h'')
    exact .inr h''
   exact(h2.gr (GrN.by af λk O=>.inl (.inr O))).old λk O=>.inl (O.elim (λZ=>.inl (.inl Z)) .inr)
  have ah:TrV (λk=>N k∨(Value.slice LA o.length lc).ownBlock=some k) w5 zt (.pointer zp):=by
   refine TrV.ext (TrV.old ?_ aa) a3;intro k O;rcases O with Z|Z
   .exact .inl Z
   exact .inr (J k Z).1
  refine Jf (i+1) v6 sO ⟨li,Qg a3 af (λg eg=>(J g eg).1),o++[([.slice D zk.length C,.bool d,.pointer zp],(zk,zt))],?_,?_,λq hq=>?_⟩ om
  .rw[List.length_append,List.length_singleton];have e:Ju (o++[([.slice D zk.length C,.bool d,.pointer zp],(zk,zt))])=Ju o++[.slice D zk.length C,.bool d,.pointer zp]:=by simp[Ju]
   rw[e];exact aw
  .rw[List.map_append,a7,List.take_succ_eq_append_getElem (by rw[List.length_map];exact li),List.getElem_map,<-hz];rfl
  rcases List.mem_append.1 hq with h1|h1
  .exact⟨(a6 q h1).1,key q ((a6 q h1).2.ext G)⟩
  rw[List.mem_singleton.1 h1];exact⟨rfl,key ([.slice D zk.length C,.bool d,.pointer zp],(zk,zt)) ⟨_,_,rfl,ak.ext ac,ah⟩⟩
 have b1:i=ps.length:=by have:=oF h;omega
 rw[b1,List.take_of_length_le (by rw[List.length_map];exact nR _)]at a7;refine ρ ?_;refine Jj ⟨⟨o,LA,lc,a7.symm,rfl,ay,om,Rd.own ae,λh0 ad e O=>?_,λp hp=>⟨(a6 p hp).1,?_⟩⟩,a2⟩
 .have:=(J ad.block (by rw[e];simp[Value.ownBlock])).1;have:=hN _ O;omega
 exact(a6 p hp).2.old λk O=>.inl (.inl O)
def Zg(bs:List BkT)(k:Row): Option Nat:=bs.findIdx? λb=>decide (b.1=k)
theorem Xql(bs:List BkT)(b:BkT)(k:Row)(h:b.1 ∉ bs.map (·.1)): Zg (bs++[b]) k=if b.1=k then some bs.length else Zg bs k:=by grind [Zg,List.findIdx?_eq_none_iff,List.mem_map.2]
structure VarQ(N:Nat->Prop)(d:Bool)(w:World)(bv pv:Value)(bs:List BkT): Prop where
 bks:DnB N d w bv bs
 plc:∃ mb m fm,pv=.map (some mb)/\m<=1000000/\(MapS Tryz.prog 9 w mb m fm/\¬ N mb)/\∀ k:Row,fm (.string (idn k))=(Zg bs k).map λi=>.int .i64 (i:Int)
theorem VarQ.gr{N:Nat->Prop}{d:Bool}{w w':World}{bv pv:Value}{bs:List BkT}(h:VarQ N d w bv pv bs)(hg:GrN N w w'): VarQ N d w' bv pv bs:=by
 refine⟨h.bks.gr hg,?_⟩;obtain⟨u,m,fm,J,G,⟨D,o⟩,C⟩:=h.plc;exact⟨u,m,fm,J,G,⟨D.gr hg o,o⟩,C⟩
theorem VarQ.none{pv:Value}(h:VarQ N d w bv pv bs): VarQ (λ_=>False) d w bv pv bs:=by
 refine⟨h.bks.old λk o=>o.elim,?_⟩;obtain⟨u,m,fm,O,J,⟨G,D⟩,C⟩:=h.plc;grind
structure IxV(w:World)(x:Value)(f:Nat)(ds:List Bool)(kf:Nat->Nat)(pf:Nat->Int)(BB:Nat->List BkT)(tot:Nat): Prop where
 ex:∃ DA dc BA cb KA ck PA cp tv kvs pvs,x=.agg #[.slice DA f dc,.slice BA f cb,.slice KA f ck,.slice PA f cp,tv]/\f<=dc/\f<=cb/\RdB w DA ds/\Rd w 3 BA f (Qk f (Qr kf pf))/\Rd w 1 KA f kvs/\Rd w 1 PA f pvs/\NatV w tv tot /\
  ∀ v,v<f->VarQ (λ_=>False) (ds.getD v false) w (kvs.getD v (.slice none 0 0)) (pvs.getD v (.map none)) (BB v)
 dl:ds.length=f
 f32:f<=32
theorem IxV.ext{w w':World}{x:Value}{f:Nat}{ds:List Bool}{kf:Nat->Nat}{pf:Nat->Int}{BB:Nat->List BkT}{tot:Nat}(h:IxV w x f ds kf pf BB tot)(hx:Ext w w'): IxV w' x f ds kf pf BB tot:=by
 obtain⟨DA,dc,BA,cb,KA,ck,PA,cp,C,u,o,h1,h2,h3,h4,h5,Z,O,J,G⟩:=h.ex;exact⟨⟨DA,dc,BA,cb,KA,ck,PA,cp,C,u,o,h1,h2,h3,Rd.ext h4 hx,h5.ext hx,Z.ext hx,O.ext hx,J.ext hx,λv D=>(G v D).gr (GrN.ext hx)⟩,h.dl,h.f32⟩
theorem Gl: Qm Tryz.prog 77=some (.agg #[.slice none 0 0,.slice none 0 0,.slice none 0 0,.slice none 0 0,.slice none 0 0]):=kr
theorem Xvl(A B C:Option Addr)(a b c a' b' c':Nat)(w:World): (Instr.build 77 #[(0,.slice A a a'),(1,.slice B b b'),(4,.slice C c c')]).run Tryz.prog w=.ok (.agg #[.slice A a a',.slice B b b',.slice none 0 0,.slice none 0 0,.slice C c c']) w:=kr
theorem Qqm{B C D E:Option Addr}{a b c d e a' b' c' d' e':Nat}: ∀ u∈[Value.slice A a a',.slice B b b',.slice C c c',.slice D d d',.slice E e e'],u.oneCell'=true:=λu o=>by
 simp only[List.mem_cons,List.not_mem_nil,or_false]at o;rcases o with rfl|rfl|rfl|rfl|rfl<;>rfl
theorem EBks: ElT Tryz.prog 74 87 1 24 (.slice none 0 0):=⟨Tryz.underlying74,info_parts kr,rfl,by decide⟩
theorem EPls: ElT Tryz.prog 75 194 1 8 (.map none):=⟨Tryz.underlying75,info_parts kr,rfl,by decide⟩
theorem Uh(z:Value)(h:z.cells = #[z])(n:Nat): (madeCells z.cells (n*1)).toList=List.replicate n z:=by rw[Nat.mul_one,h];exact Ul _ _
theorem Xyq{B0 f dc cb ck tot:Nat}{ds:List Bool}{kf:Nat->Nat}{pf:Nat->Int}{BB:Nat->List BkT}(hTB:TB B0 w)(hdl:ds.length=f)(f32:f<=32)(hD:RdB w DA ds)(hBg:Rd w 3 BA f (Qk f (Qr kf pf)))(hK:Rd w 1 KA f bvs)(hel:∀ v,v<f->DnB M (ds.getD v false) w (bvs.getD v (.slice none 0 0)) (BB v))(htv:NatX M w tv tot)(hM:∀ k,M k->k<w.heap.size)(hfit:∀ v,v<f->∀ b∈BB v,FitR b.1)(hlt:∀ v,v<f->Lt [] ((BB v).map (·.1))):
  Ret Tryz.prog 72 [.slice DA f dc,.slice BA f cb,.slice KA f ck,tv] w λu w'=>Off M w' (λW=>IxV W u f ds kf pf BB tot)/\IxV w' u f ds kf pf BB tot/\Ext w w':=by
 obtain⟨TA,tc,rfl,g2⟩:=id htv.1;have fj:Rd w 1 DA f (ds.map Value.bool):=hdl ▸ hD;refine Jz Tryz.func72 Tryz.ntmps72 rfl kr rfl ?_;refine ρ ?_;refine alc Gl ?_;intro w1 b8 ao e4 de;refine ρ ?_;refine cl (Jms (fj.ext ao) (λu hu=>by obtain⟨b,_,rfl⟩:=List.mem_map.1 hu;rfl) om) ?_;rintro _ w2 ⟨⟨bp,c7,rfl,dz,bl,fa⟩,an⟩;refine ρ ?_;refine cl (Qvv ((hBg.ext ao).ext an) (Qkn _ _ _) om) ?_;rintro _ w3 ⟨⟨bq,c8,rfl,e0,cw,fb⟩,am⟩;refine ρ ?_;refine bld (Xvl _ _ _ _ _ _ _ _ _ _) ?_;refine ρ ?_;refine alc Gl ?_;intro w4 b9 f3 ar fk;refine ρ ?_;refine stW fk ?_;intro w5 el g6 f2;have a9:Ext w3 w5:=f2 w3 f3 ar;have cc:Ext w w5:=((ao.trans an).trans am).trans a9;have b3:Ext w5 w5.drew:=(Ext.refl w5).drew;have bm:=el.ext b3;refine ρ ?_;refine drH (λi=>Nat.beq i 7 || Nat.beq i 9) ?_;refine Zv (fuel':=8) 8 [(0,0),(0,1)] #[true,true,false,false,false,false,false,false,false,false] kr kr rfl ?_
 refine ρd ?_;refine Xf ?_;refine Gv (fuel':=7) 3 kr kr rfl rfl ?_;refine ρp ?_;refine ρd ?_;refine Xf ?_;refine Gv (fuel':=6) 4 kr kr rfl rfl ?_;refine ρp ?_;refine ρd ?_;refine Xf ?_;have g7:w5.drew.heap.size=w5.heap.size:=rfl;refine Jwp 2 (lst 10 8) (fun (y:Option Addr×Option Addr)=>[(24,.slice y.2 f f),(9,.pointer (some ⟨b9,0,none⟩)),(8,.pointer (some ⟨b8,0,none⟩)),(0,.slice DA f dc),(2,.slice KA f ck)])
  (λy W=>GrN (λk=>k=b9) w5.drew W/\Blk W b9 77 [.slice bp f c7,.slice bq f c8,.slice y.1 f f,.slice none 0 0,.slice TA (Jq tot).length tc] /\
   W.ownsRow w5.drew.heap.size 87 1 (.slice y.1 f f) f (List.replicate f (.slice none 0 0))/\W.ownsRow w5.drew.heap.size 194 1 (.slice y.2 f f) f (List.replicate f (.map none))) ?_ ?_
 rotate_left
 .intro rest;refine itwo 2 5 kr rfl rfl rfl ?_ ?_
  .refine mkn EBks f om (by unfold maxLen;omega) ?_;intro w6 D aa ah _;rw[Uh _ rfl]at ah;refine Jc (Kl (λ_=>aa) ?_);refine Gv (fuel':=4) 6 kr kr rfl rfl ?_;refine ρp ?_;refine ρd ?_;refine Xf ?_;refine itwo 5 7 kr rfl rfl rfl ?_ ?_
   .refine mkn EPls f om (by unfold maxLen;omega) ?_;intro w7 G a1 af _;rw[Uh _ rfl]at af;refine Jc (Kl (λ_=>a1) ?_);refine Jwk 7 kr rfl rfl ?_;have a5:=(bm.ext aa).ext a1;refine sto (a5.at (i:=2) rfl) (a5.frozen 2) ?_;refine Jc (Kl (λh=>by cases h) ?_);refine hlist (listed':=lst 10 8) kr ?_;have ab:GrN (λk=>k=b9) w7 (w7.setCell ⟨b9,2,none⟩ (.slice D f f)):=GrN.set _ rfl;refine rest (D,G) _ _ ⟨(GrN.ext (aa.trans a1)).trans ab,a5.set 2 _,Js (Jk ah a1) ab λg Z e=>?_,Js (af.mono aa.size) ab λg Z e=>?_⟩ sB
    .rw[e]at Z;exact a5.ne_own (Jk ah a1) rfl Z.symm
    rw[e]at Z;exact a5.ne_own af rfl Z.symm
   have ae:=bm.ext aa;refine sto (ae.at (i:=2) rfl) (ae.frozen 2) ?_;refine Jc (Kl (λh=>by cases h) ?_);refine Jwk 5 kr rfl rfl ?_;have ab:GrN (λk=>k=b9) w6 (w6.setCell ⟨b9,2,none⟩ (.slice D f f)):=GrN.set _ rfl;refine mkn EPls f om (by unfold maxLen;omega) ?_;intro w7 G a1 af _;rw[Uh _ rfl]at af;refine Jc (Kl (λ_=>a1) ?_);refine hlist (listed':=lst 10 8) kr ?_;refine rest (D,G) _ _ ⟨((GrN.ext aa).trans ab).trans (GrN.ext a1),(ae.set 2 _).ext a1,Jk (Js ah ab λg Z e=>?_) a1,af.mono (nL aa.size ab.size)⟩ sB;rw[e]at Z;exact ae.ne_own ah rfl Z.symm
  refine mkn EPls f om (by unfold maxLen;omega) ?_;intro w6 G aa au _;rw[Uh _ rfl]at au;refine Jc (Kl (λ_=>aa) ?_);refine Jwk 2 kr rfl rfl ?_;refine mkn EBks f om (by unfold maxLen;omega) ?_;intro w7 D a1 aw _;rw[Uh _ rfl]at aw;refine Jc (Kl (λ_=>a1) ?_);refine Gv (fuel':=3) 6 kr kr rfl rfl ?_;refine ρp ?_;refine ρd ?_;refine Xf ?_;refine Jwk 7 kr rfl rfl ?_;have a5:=(bm.ext aa).ext a1;refine sto (a5.at (i:=2) rfl) (a5.frozen 2) ?_;refine Jc (Kl (λh=>by cases h) ?_);refine hlist (listed':=lst 10 8) kr ?_;have ab:GrN (λk=>k=b9) w7 (w7.setCell ⟨b9,2,none⟩ (.slice D f f)):=GrN.set _ rfl;refine rest (D,G) _ _ ⟨(GrN.ext (aa.trans a1)).trans ab,a5.set 2 _,Js (aw.mono aa.size) ab λg Z e=>?_,Js (Jk au a1) ab λg Z e=>?_⟩ sB
  .rw[e]at Z;exact a5.ne_own aw rfl Z.symm
  rw[e]at Z;exact a5.ne_own (Jk au a1) rfl Z.symm
 rintro⟨D,G⟩ w6 ⟨ai,ae,ah,au⟩;simp only at ae ah au;refine Gv (fuel':=1) 8 kr kr rfl rfl ?_;refine ρp ?_;refine ρd ?_;refine Xf ?_;refine Jwk 9 kr rfl rfl ?_;refine sto (ae.at (i:=3) rfl) (ae.frozen 3) ?_;refine Jc (Kl (λh=>by cases h) ?_);refine Vf kr ?_;obtain⟨w7,bw⟩:∃ w7,w7=w6.setCell ⟨b9,3,none⟩ (.slice G f f):=⟨_,rfl⟩;have ac:GrN (λk=>k=b9) w6 w7:=by rw[bw];exact GrN.set _ rfl
 have a5:Blk w7 b9 77 [.slice bp f c7,.slice bq f c8,.slice D f f,.slice G f f,.slice TA (Jq tot).length tc]:=by rw[bw];exact ae.set 3 _
 have aw:=Js ah ac λg Z e=>by rw[e]at Z;exact ae.ne_own ah rfl Z.symm
 have af:=Js au ac λg Z e=>by rw[e]at Z;exact ae.ne_own au rfl Z.symm
 rw[show w6.setCell ((⟨b9,0,none⟩:Addr).add 3) (.slice (D,G).2 f f)=w7 from bw.symm];clear bw;obtain⟨N,c1⟩:∃ N:Nat->Prop,N=λk=>(Value.slice D f f).ownBlock=some k∨(Value.slice G f f).ownBlock=some k:=⟨_,rfl⟩;obtain⟨NB,bh⟩:∃ NB:Nat->Prop,NB=λk=>N k∨k=b8∨M k:=⟨_,rfl⟩;have ag:∀ {W W':World},GrN N W W'->GrN NB W W':=λhg=>hg.mono λk _ o=>by rw[bh];exact .inl o
 have lK:∀ g,(Value.slice D f f).ownBlock=some g->w5.heap.size<=g/\g<w7.heap.size:=(Jy aw).choose_spec.choose_spec.2.2;have lP:∀ g,(Value.slice G f f).ownBlock=some g->w5.heap.size<=g/\g<w7.heap.size:=(Jy af).choose_spec.choose_spec.2.2;have av:∀ k,N k->w5.heap.size<=k/\k<w7.heap.size:=λk o=>by
  rw[c1]at o;exact o.elim (lK k) (lP k)
 have c2:¬ N b9:=λo=>by
  rw[c1]at o;rcases o with h'|h'
  .exact a5.ne_own aw rfl h'.symm
  exact a5.ne_own af rfl h'.symm
 have dj:Ext w w7:=by
  have h1:Ext w3 w6:=(ai.old (a9.trans b3) λk o=>by rw[o];exact ar);have h2:Ext w3 w7:=ac.old h1 λk o=>by rw[o];exact ar
  exact((ao.trans an).trans am).trans h2
 have fz:b8<w3.heap.size:=nM de.lt (an.trans am).size;have eo:Blk w7 b8 77 _:=Jv (Jv ((((de.ext an).ext am).ext (a9.trans b3))) ai λe=>om) ac λe=>by omega
 have fh:Rd w7 1 bp f (ds.map Value.bool):=by
  have h1:Ext w3 w6:=(ai.old (a9.trans b3) λk o=>by rw[o];exact ar);have h2:Ext w3 w7:=ac.old h1 λk o=>by rw[o];exact ar
  exact Rd.ext (Rd.ext bl am) h2
 have ej:Rd w7 3 bq f (Qk f (Qr kf pf)):=by
  have h1:Ext w3 w6:=(ai.old (a9.trans b3) λk o=>by rw[o];exact ar);have h2:Ext w3 w7:=ac.old h1 λk o=>by rw[o];exact ar
  exact Rd.ext cw h2
 have fp:w5.heap.size<=w7.heap.size:=nL ai.size ac.size;have f4:w3.heap.size<=w5.heap.size:=a9.size;refine ρ ?_;refine Xm (fun (v:Nat) (C J:List Value)=>[(8,.pointer (some ⟨b8,0,none⟩)),(9,.pointer (some ⟨b9,0,none⟩)),(2,.slice KA f ck),(28,.int .i64 (f:Int)),(29,.int .i64 (v:Int))])
  (λv C J w'=>v<=f/\GrN N w7 w'/\w'.ownsRow w5.drew.heap.size 87 1 (.slice D f f) f C/\w'.ownsRow w5.drew.heap.size 194 1 (.slice G f f) f J /\
   ∀ u,u<v->VarQ NB (ds.getD u false) w' (C.getD u (.slice none 0 0)) (J.getD u (.map none)) (BB u)) (λv _ _=>f-v) 0 _ _ sB
  ⟨Nat.zero_le _,GrN.refl _ _,aw,af,λu hu=>om⟩ ?_
 rintro v C J w8 ⟨hv,a3,d8,d2,e7⟩;have ay:=Jv a5 a3 c2;have a2:Ext w w8:=a3.old dj λk o=>by have:=(av k o).1;have:=cc.size;omega
 refine ρ ?_;refine ci (λh=>?_) (λh=>?_)
 .have lv:v<f:=by have:=oT h;omega
  clear h;obtain⟨d,hd⟩:∃ d,d=ds.getD v false:=⟨_,rfl⟩;have ch:=hel v lv;rw[<-hd]at ch;have fx:bvs.length=f:=by have:=hK.len;omega
  have g5:C.length=f:=by have:=d8.1;omega
  have g3:J.length=f:=by have:=d2.1;omega
  have d3:∀ k,N k->w.heap.size<=k:=λk o=>nL cc.size (av k o).1;have a8:Ext w8 w8.drew:=(Ext.refl w8).drew;have bn:=ay.ext a8;have cr:=Jk d8 a8;have cm:=Jk d2 a8;have ff:Rd w8.drew 1 KA f bvs:=hK.ext (a2.trans a8);have eb:∀ g,(Value.slice D f f).ownBlock=some g->N g:=λg Z=>by rw[c1];exact .inl Z
  have d4:∀ g,(Value.slice G f f).ownBlock=some g->N g:=λg Z=>by rw[c1];exact .inr Z
  have cj:∀(W:World) (N':Nat->Prop),Ext w W->(∀ k,N' k->(M k∨w.heap.size<=k)/\k<W.heap.size)->Ret Tryz.prog 77 [bvs.getD v (.slice none 0 0)] W λu w'=>DnB N' d w' u (BB v)/\Ext W w':=λW N' f0 ec=>
   Xzm ((((ch.old (N':=λk=>M k∨w.heap.size<=k) λk o=>o)).ext f0).old λk o=>.inl (ec k o).1) λk o=>(ec k o).2
  have b5:∀(W:World) (C:List Value) (u:Value),W.ownsRow w5.drew.heap.size 87 1 (.slice D f f) f C->W.ownsRow w5.drew.heap.size 194 1 (.slice G f f) f J ->
    W.cell? (adr D v)=C[v]?/\W.frozen? (adr D v)=false/\(W.setCell (adr D v) u).ownsRow w5.drew.heap.size 87 1 (.slice D f f) f (C.set v u)/\(W.setCell (adr D v) u).ownsRow w5.drew.heap.size 194 1 (.slice G f f) f J/\GrN N W (W.setCell (adr D v) u):=λW C u ef fd=>by
   obtain⟨s1,s2,s3,s4,s5⟩:=Za ef (q:=v) om u;exact⟨s1,s2,s3,Zf fd ef s5 rfl,GrN.by s5 eb⟩
  refine ρ ?_;refine drM N ?_;refine Ux (fuel':=6) [(0,0),(0,1),(0,2),(0,3),(0,4),(0,5),(0,6),(0,7),(0,8),(0,9)] (lst 16 10) kr kr rfl ?_;refine ρn ?_;refine nld (Jl (bn.at (i:=2) rfl) c2) ?_;refine ρn ?_;refine nld (Jl (bn.at (i:=3) rfl) c2) ?_;refine ρn ?_;refine nix v ff lv ?_;refine ρn ?_;refine nld (v:=bvs.getD v (.slice none 0 0)) (λw' hg=>Gb (hg.old (a2.trans a8) d3) (hK.cell (show bvs[v]?=some (bvs.getD v (.slice none 0 0)) by simp[List.getD,List.getElem?_eq_getElem (show v<bvs.length by omega)]))) ?_;refine ρn ?_;refine Uz ?_;refine mcut 2 (lst 16 14) (fun (y:Value×Nat)=>[(43,.map (some y.2)),(36,.slice G f f),(37,.int .i64 (v:Int)),(10,.int .i64 (v:Int)),(8,.pointer (some ⟨b8,0,none⟩)),(9,.pointer (some ⟨b9,0,none⟩)),(2,.slice KA f ck),(28,.int .i64 (f:Int)),(29,.int .i64 (v:Int))])
   (λy W=>GrN N w8.drew W/\W.ownsRow w5.drew.heap.size 87 1 (.slice D f f) f (C.set v y.1)/\W.ownsRow w5.drew.heap.size 194 1 (.slice G f f) f J/\DnB (λk=>NB k∨k=y.2) d W y.1 (BB v)/\MapS Tryz.prog 9 W y.2 0 (λ_=>none)/\w8.heap.size<=y.2) ?_ ?_
  rotate_left
  .intro rest;have ax:∀ k,NB k->(M k∨w.heap.size<=k)/\k<w8.heap.size:=λk o=>by
    rw[bh]at o;rcases o with o|o|o
    .exact⟨.inr (d3 k o),Nat.lt_of_lt_of_le (av k o).2 a3.size⟩
    .have:=a3.size;rw[o];exact⟨.inr e4,om⟩
    exact⟨.inl o,Nat.lt_of_lt_of_le (hM k o) a2.size⟩
   have bg:∀ k,N k->k<w8.heap.size:=λk o=>nM (av k o).2 a3.size;refine Jjv 10 11 kr rfl rfl rfl ?_ ?_
   .refine cl (cj _ NB (a2.trans a8) ax) ?_;rintro u W1 ⟨c5,a4⟩;have d9:=Jk cr a4;have e9:=Jk cm a4;refine Jc (Xz (GrN.ext a4) ?_);refine Ux (fuel':=4) [(0,12)] #[true,true,true,true,true,true,true,true,true,true,true,false,true,false,false,false] kr kr rfl ?_;refine ρn ?_;refine nix v (Rd.own d9) lv ?_;refine ρn ?_;refine Uz ?_;refine Jjv 11 13 kr rfl rfl rfl ?_ ?_
    .refine mkm 9 ?_;intro W2 mb O ap d7;refine Jc (Xz (GrN.ext O) ?_);refine Ze 13 kr rfl rfl ?_;obtain⟨s1,s2,s3,s4,s5⟩:=b5 W2 C u (Jk d9 O) (Jk e9 O);refine sto (s1.trans (show C[v]?=some (C.getD v (.slice none 0 0)) by simp[List.getD,List.getElem?_eq_getElem (show v<C.length by omega)])) s2 ?_ rfl rfl rfl rfl rfl (by obtain⟨_,_,_,_,e,_⟩:=c5;rw[e];rfl);refine Jc (Xz s5 ?_);refine Gx (listed':=lst 16 14) kr ?_;refine rest (u,mb) _ _ ⟨(GrN.ext (a4.trans O)).trans s5,s3,s4,?_,d7.gr s5 λo=>?_,Nat.le_trans a4.size ap⟩ sB
     .exact(((c5.old (N':=λk=>NB k∨k=mb) λk o=>o.imp id λe=>by rw[e];exact ap).ext O).gr ((ag s5).mono λk _ o=>.inl o))
     have h1:=bg _ o;have h2:w8.heap.size<=W1.heap.size:=a4.size;omega
    obtain⟨s1,s2,s3,s4,s5⟩:=b5 W1 C u d9 e9;refine sto (s1.trans (show C[v]?=some (C.getD v (.slice none 0 0)) by simp[List.getD,List.getElem?_eq_getElem (show v<C.length by omega)])) s2 ?_ rfl rfl rfl rfl rfl (by obtain⟨_,_,_,_,e,_⟩:=c5;rw[e];rfl);refine Jc (Xz s5 ?_);refine Ze 11 kr rfl rfl ?_;refine mkm 9 ?_;intro W2 mb O ap d7;refine Jc (Xz (GrN.ext O) ?_);refine Gx (listed':=lst 16 14) kr ?_;refine rest (u,mb) _ _ ⟨((GrN.ext a4).trans s5).trans (GrN.ext O),Jk s3 O,Jk s4 O,?_,d7,Nat.le_trans a4.size (nL s5.size ap)⟩ sB;exact((c5.gr (ag s5)).old (N':=λk=>NB k∨k=mb) λk o=>o.imp id λe=>by rw[e];exact ap).ext O
   refine mkm 9 ?_;intro W1 mb a4 ap ee;refine Jc (Xz (GrN.ext a4) ?_);refine Ze 10 kr rfl rfl ?_;have fr:=ee.lt;have dn:w8.heap.size<=mb:=ap;have g8:w8.heap.size<=W1.heap.size:=a4.size;refine cl (cj _ (λk=>NB k∨k=mb) ((a2.trans a8).trans a4) λk o=>?_) ?_
   .rcases o with o|o
    .have:=ax k o;exact⟨this.1,om⟩
    have:=a2.size;exact⟨.inr om,om⟩
   rintro u W2 ⟨bl,O⟩;have cv:=Jk (Jk cr a4) O;have fe:=Jk (Jk cm a4) O;refine Jc (Xz (GrN.ext O) ?_);refine Ux (fuel':=3) [(0,12)] (lst 16 13) kr kr rfl ?_;refine ρn ?_;refine nix v (Rd.own cv) lv ?_;refine ρn ?_;refine Uz ?_;refine Ze 13 kr rfl rfl ?_;obtain⟨s1,s2,s3,s4,s5⟩:=b5 W2 C u cv fe;refine sto (s1.trans (show C[v]?=some (C.getD v (.slice none 0 0)) by simp[List.getD,List.getElem?_eq_getElem (show v<C.length by omega)])) s2 ?_ rfl rfl rfl rfl rfl (by obtain⟨_,_,_,_,e,_⟩:=bl;rw[e];rfl);refine Jc (Xz s5 ?_);refine Gx (listed':=lst 16 14) kr ?_;refine rest (u,mb) _ _ ⟨(GrN.ext (a4.trans O)).trans s5,s3,s4,bl.gr ((ag s5).mono λk _ o=>.inl o),(ee.ext O).gr s5 λo=>?_,dn⟩ sB;have:=bg _ o;omega
  rintro⟨u,mb⟩ w9 ⟨bb,c3,bf,db,d6,dm⟩;simp only at c3 db d6 dm;refine Ux (fuel':=1) [(0,14)] (lst 16 15) kr kr rfl ?_;refine ρn ?_;refine nix v (Rd.own bf) lv ?_;refine ρn ?_;refine Uz ?_;refine Ze 15 kr rfl rfl ?_;obtain⟨r1,r2,r3,r4,r5⟩:=Za bf (q:=v) om (.map (some mb));refine sto (r1.trans (show J[v]?=some (J.getD v (.map none)) by simp[List.getD,List.getElem?_eq_getElem (show v<J.length by omega)])) r2 ?_;have b6:=GrN.by r5 d4
  refine Jc (Xz b6 ?_);refine Jwb kr ?_;obtain⟨b1,cd⟩:∃ b1,b1=w9.setCell (adr G v) (.map (some mb)):=⟨_,rfl⟩;rw[<-cd]at r3 r5 b6 ⊢;clear cd;have ax:∀ k,N k->k<w8.heap.size:=λk o=>nM (av k o).2 a3.size;have aj:¬ N mb:=λo=>by have:=ax _ o;omega
  have d5:¬ NB mb:=λo=>by
   rw[bh]at o;rcases o with o|o|o
   .exact aj o
   .have:=a3.size;omega
   have:=hM _ o;have:=a2.size;omega
  have aq:=(GrN.ext (N:=N) a8).trans (bb.trans b6);have bo:=Jv ay aq c2;have bi:=Zf c3 bf r5 rfl;have ei:=db.gr ((ag b6).mono λk _ o=>.inl o);have cq:=d6.gr b6 aj;have c9:Ext w b1:=aq.old a2 d3;have f7:=cq.lt;clear db d6;obtain⟨ps,GA,gc,c6,rfl,f9,dl,da,eh,c4⟩:=ei;have du:(C.set v (.slice GA ps.length gc))[v]?=some (.slice GA ps.length gc):=by rw[List.getElem?_set_self om]
  have e3:¬ b9=mb:=λe=>by have:=ay.lt;omega
  have dt:ps.length=(BB v).length:=by rw[c6,List.length_map]
  have fc:=hTB.ext c9;refine ρ ?_;refine ld (bo.at (i:=2) rfl) ?_;refine ρ ?_;refine ix v (Rd.own bi) lv ?_;refine ρ ?_;refine ld ((Rd.own bi).cell du) ?_;refine ρ ?_;refine Xm (fun (i:Nat) (mc:Nat) (fm:Lit->Option Value)=>[(8,.pointer (some ⟨b8,0,none⟩)),(9,.pointer (some ⟨b9,0,none⟩)),(2,.slice KA f ck),(10,.int .i64 (v:Int)),(28,.int .i64 (f:Int)),(29,.int .i64 (v:Int)),(50,.slice GA ps.length gc),(51,.int .i64 (ps.length:Int)),(52,.int .i64 (i:Int))])
   (λi mc fm w'=>i<=ps.length/\GrN (λk=>k=mb) b1 w'/\MapS Tryz.prog 9 w' mb mc fm/\mc<=i/\∀ k:Row,fm (.string (idn k))=(Zg ((BB v).take i) k).map λj=>.int .i64 (j:Int)) (λi _ _=>ps.length-i) 0 0 (λ_=>none) sB
   ⟨Nat.zero_le _,GrN.refl _ _,cq,Nat.le_refl _,λk=>rfl⟩ ?_
  rintro i mc fm ak ⟨hi,a6,cp,g4,d0⟩;refine ρ ?_;refine ci (λh=>?_) (λh=>?_)
  .have li:i<ps.length:=by have:=oT h;omega
   clear h;obtain⟨z,hz⟩:∃ z,z=ps[i]:=⟨_,rfl⟩;have cx:z∈ps:=by rw[hz];exact List.getElem_mem li
   have ez:z.2∈BB v:=by rw[c6];exact List.mem_map_of_mem cx
   have bc:GrN (λk=>NB k∨k=mb) b1 ak:=a6.mono λk _ o=>.inr o;have bj:=Vc da bc λh0 ad e=>eh (by have:=da.1;omega) ad e;have d1:=(c4 z cx).2.gr bc;have be:∀ j u,z.1[j]?=some u->ak.cell? ((adr GA (i*3)).add j)=some u:=λj u hu=>by
    have hj:j<3:=by have:=(List.getElem?_eq_some_iff.1 hu).1;have:=(c4 z cx).1;omega
    rw[Qo];refine bj.cell ?_;rw[Ir (p:=z) (λp hp=>(c4 p hp).1) (by rw[hz];exact gE li) hj];exact hu
   obtain⟨kv,zq,fl,ey,ex⟩:=id d1;obtain⟨zp,rfl⟩:=ex.ptr;have bd:=hfit v lv z.2 ez;obtain⟨eu,dg,rfl,fu,ft,dv,_⟩:=id ey;rw[fl]at be;have cy:Ext w ak:=a6.old c9 λk o=>by rw[o];have:=a2.size;omega
   have dd:=Jv bo a6 e3;have e8:=Js r3 a6 λg Z e=>aj (by rw[<-e];exact d4 g Z);refine ρ ?_;refine ixq 3 i bj li ?_;refine ρ ?_;refine lds (cs:=[.slice eu z.2.1.length dg,.bool d,.pointer zp]) be ?_;refine ρ ?_;refine alc Jdq ?_;intro g1 g9 di e5 ep;refine ρ ?_;refine stb (cs':=[.slice eu z.2.1.length dg,.bool d,.pointer zp]) ep ?_ (Jbk rfl);intro br df fw dh;have bs:Ext ak br:=dh ak di e5;have b2:Ext br br.drew:=(Ext.refl br).drew;have a7:=bs.trans b2;have cn:=Rd.own (Jk e8 a7);refine ρ ?_;refine drN (λ_=>False) 10 [(0,0),(0,1),(0,2),(0,3),(0,4),(0,5),(0,6),(0,8),(1,7),(2,9)] kr ?_;refine ρn ?_;refine nld (Jl ((dd.ext a7).at (i:=3) rfl) (λe=>e)) ?_;refine ρn ?_;refine nix v cn lv ?_;refine ρn ?_;refine nld (Jl (cn.cell (show(J.set v (.map (some mb)))[v]?=some (.map (some mb)) by rw[List.getElem?_set_self om])) (λe=>e)) ?_;refine ρn ?_;refine nld (Jl ((df.ext b2).at (i:=0) rfl) (λe=>e)) ?_
   refine ρn ?_;refine nop ?_;refine cl (Jzb (r:=z.2.1) (hTB.ext (cy.trans a7)) (dv.ext a7) (λu hu=>(bd.2 u hu).1) (by have:=bd.len;omega) (by have:=bd.1;omega)) ?_;rintro un g0 ⟨rfl,b4⟩;refine ρ ?_;refine Jm (GrN.ext b4) ?_;refine ρn ?_;refine Xh ?_;refine mup KS ((cp.ext a7).ext b4) (by unfold maxLen;omega) (Gt bd) ?_;intro ew ed dx;have bz:GrN (λk=>k=mb) ak ew:=(GrN.ext (a7.trans b4)).trans (GrN.by dx λk o=>by injection o with o;exact o.symm);refine ρ ?_;refine Qp (i+1) (mc+1) (upL fm (.string (idn z.2.1)) (some (.int .i64 (i:Int)))) sO ⟨li,a6.trans bz,ed,om,λk=>?_⟩ om;have et:(BB v).take (i+1)=(BB v).take i++[z.2]:=by
    rw[c6,List.take_succ_eq_append_getElem (by rw[List.length_map];exact li),List.getElem_map,hz]
   have f6:z.2.1 ∉ ((BB v).take i).map (·.1):=by
    have h1:=hlt v lv;rw[<-List.take_append_drop (i+1) (BB v),et,List.map_append,List.map_append]at h1;intro hm;have h2:=(List.pairwise_append.1 (List.pairwise_append.1 h1).1).2.2 _ hm z.2.1 (by simp);rw[Yj]at h2;omega
   rw[et,Xql _ _ _ f6];have dq:((BB v).take i).length=i:=by rw[List.length_take];omega
   by_cases e:z.2.1=k
   .rw[if_pos e,<-e,Kq (KS.key (Gt bd)),dq];rfl
   rw[if_neg e,Uy (λe'=>e (Jck (by injection e'.symm)))];exact d0 k
  have f8:i=ps.length:=by have:=oF h;omega
  clear h;have cz:(BB v).take i=BB v:=by rw[f8,dt,List.take_length]
  rw[cz]at d0;have dw:GrN N w8 ak:=by
   refine((aq.mono λk _ o=>(.inl o:N k∨k=mb)).trans (a6.mono λk _ o=>.inr o)).mono λk o h=>?_;rcases h with h|h
   .exact h
   omega
  have dk:∀ u,u<v->(C.set v (.slice GA ps.length gc)).getD u (.slice none 0 0)=C.getD u (.slice none 0 0)/\(J.set v (.map (some mb))).getD u (.map none)=J.getD u (.map none):=λu hu=>by
   constructor<;>simp[List.getD,List.getElem?_set_ne (show v≠u by omega)]
  have e6:(C.set v (.slice GA ps.length gc)).getD v (.slice none 0 0)=.slice GA ps.length gc/\(J.set v (.map (some mb))).getD v (.map none)=.map (some mb):=by
   constructor
   .rw[List.getD,du];rfl
   rw[List.getD,List.getElem?_set_self om];rfl
  have fg:DnB (λk=>NB k∨k=mb) d b1 (.slice GA ps.length gc) (BB v):=⟨ps,GA,gc,c6,rfl,f9,dl,da,eh,c4⟩;refine ρ ?_;refine Qp (v+1) (C.set v (.slice GA ps.length gc)) (J.set v (.map (some mb))) sO ⟨lv,a3.trans dw,Js bi a6 λg Z e=>aj (by rw[<-e];exact eb g Z),Js r3 a6 λg Z e=>aj (by rw[<-e];exact d4 g Z),λu hu=>?_⟩ om;by_cases e:u=v
  .subst e;rw[e6.1,e6.2,<-hd];refine⟨(fg.gr (a6.mono λk _ o=>.inr o)).old λk o=>.inl (.inl o),mb,mc,fm,rfl,om,⟨cp,d5⟩,d0⟩
  obtain⟨e1,e2⟩:=dk u om;rw[e1,e2];exact(e7 u om).gr (ag dw)
 have f5:v=f:=by have:=oF h;omega
 clear h;subst f5;refine ρ ?_;refine ldW ay ?_;refine ρ ?_;have ea:¬ N b8:=λo=>by have:=(av _ o).1;omega
 have en:=Jv eo a3 ea;refine stW en ?_;intro w9 em bb fo;have ba:GrN (λk=>k=b8) w8 w9:=GrN.by bb λk o=>by injection o with o;exact o.symm
 have ca:Ext w w9:=ba.old a2 λk o=>by rw[o];exact e4
 have fy:b8<w1.heap.size:=de.lt;have co:∀ k,NB k->k<w1.heap.size∨w5.heap.size<=k:=λk o=>by
  rw[bh]at o;rcases o with o|o|o
  .exact .inr (av k o).1
  .left;omega
  left;exact nM (hM k o) ao.size
 have er:∀ W,GrN M w9 W->IxV W (.agg #[.slice bp v c7,.slice bq v c8,.slice D v v,.slice G v v,.slice TA (Jq tot).length tc]) v ds kf pf BB tot:=λW hW=>by
  have b7:GrN (λk=>k=b8∨M k) w8 W:=(ba.mono λk _ o=>.inl o).trans (hW.mono λk _ o=>.inr o);have ce:GrN NB w8 W:=b7.mono λk _ o=>by rw[bh];exact .inr o
  have cg:GrN NB w7 W:=(ag a3).trans ce;have fi:=Vc fh cg λh0 ad e o=>by
   obtain⟨fn,e',hb,_⟩:=bl.2 h0;rw[e]at e';injection e' with e';subst e'
   have h1:=fa ad e;have h2:w2.heap.size<=w5.heap.size:=(am.trans a9).size;rcases co _ o with h'|h'<;>omega
  have ek:=Vc ej cg λh0 ad e o=>by
   obtain⟨fn,e',hb,_⟩:=cw.2 h0;rw[e]at e';injection e' with e';subst e'
   have h1:=fb ad e;have h2:=an.size;rcases co _ o with h'|h'<;>omega
  have fq:w1.heap.size<=w5.heap.size:=(an.trans (am.trans a9)).size;have c3:=Js d8 b7 λg Z e=>by
   have h1:=(lK g Z).1;rcases e with e|e
   .omega
   have:=hM g e;have:=ao.size;omega
  have bf:=Js d2 b7 λg Z e=>by
   have h1:=(lP g Z).1;rcases e with e|e
   .omega
   have:=hM g e;have:=ao.size;omega
  refine⟨⟨bp,c7,bq,c8,D,v,G,v,_,C,J,rfl,dz,e0,?_,ek,Rd.own c3,Rd.own bf,((htv.ext ca).gr hW).1,λu hu=>?_⟩,hdl,f32⟩
  .unfold RdB;rw[hdl];exact fi
  exact((e7 u hu).gr ce).none
 refine ρ ?_;exact Jqh em ⟨λW hW=>er W hW,er w9 (GrN.refl _ _),ca⟩
end Go.Proofs.YtbcdghbonlifdaaGreatDoor
namespace Go.Wk
open Go.RowKit
variable {c d e m n t ty:Nat}
theorem nslh{N:Nat->Prop}{P:Program}{al:AL}{w:World}{Q:Exit->Act->World->Prop}{ops:Array Oper}{drest:List (Nat×Oper)}{pos:String}{aft:Array Edge}{tt:TT}[hT:Tab P tt]{x y:Operand}{k:TK}{A:Option Addr}{kd:IntKind}{z:Int}(h:Nat)(kk:WN N P n ops Q drest ((d,.slice A h c)::al) w)(h2:h<=c)(ht:tk tt t=some k:=by rfl)(hk:k.desc=.slice e:=by rfl)(hx:ev al x=some (.slice A m c):=by rfl)(hy:ev al y=some (.int kd z):=by rfl)(hz:z=(h:Int):=by first|rfl|omega)(hd:Nat.blt d n=true:=by rfl):
  WN N P n ops Q ((0,⟨some d,.slice t x none (some y) none,ty,pos,aft,none⟩)::drest) al w:=by
 obtain⟨o,hs⟩:=Kx hT.ok ht hk rfl;refine ny_ (λw' _ a u=>?_) hd kk;have:=Jgb (ty:=ty) (pos:=pos) (aft:=aft) (P:=P) (w:=w') (lo:=none) (hi:=some y) (mx:=none) (l:=0) (h:=h) (q:=c) (dst:=some d) u o hs hx rfl ⟨kd,z,hy,hz⟩ rfl (.inl rfl) (Nat.zero_le _) h2 (nR _);rw[cut0]at this;simpa using this
end Go.Wk
namespace Go.Proofs.YtbcdghbonlifdaaGreatDoor
open Go.RowKit Pl Go.Wk
attribute [local irreducible] WC WL QX WD WDB WP WN WG
variable {ds:List Bool}{l perm:List Nat}{ts:List TA}{B0 c f m n s u v:Nat}{pf:Nat->Int}{vars:Nat->List Nat}{R rs:Nat->List Row}{w:World}
def Un(e:Nat)(l:List Nat): Nat:=l.foldl (λe v=>e ||| 2^v) e
def Qd(l:List Nat): Nat:=Un 0 l
theorem Qwd: ∀(l:List Nat) (e u:Nat),(Un e l).testBit u=true↔e.testBit u=true∨u∈l
 | [],e,u=>by simp[Un]
 | v::l,e,u=>by
  have:=Qwd l (e ||| 2^v) u;rw[show Un e (v::l)=Un (e ||| 2^v) l from rfl,this,Nat.testBit_or,Nat.testBit_two_pow,Bool.or_eq_true,decide_eq_true_eq,List.mem_cons];grind
theorem edgeOf_bit: (Qd l).testBit u=true↔u∈l:=by rw[Qd,Qwd];simp
theorem Jzg(h:∀ v∈l,v<n): Qd l<2^n:=by
 refine Nat.lt_pow_two_of_testBit _ λi hi=>?_;cases hb:(Qd l).testBit i with
 | false=>rfl
 | true=>have:=h i (edgeOf_bit.1 hb);omega
theorem Qwc(e:Nat)(l:List Nat)(v:Nat): Un e (l++[v])=Un e l ||| 2^v:=by simp[Un]
def Zy(m:Nat)(vars:Nat->List Nat): List Nat:=(List.range m).map λi=>Qd (vars i)
structure BldI(n f:Nat)(ds:List Bool)(perm:List Nat)(ts:List TA)(vars:Nat->List Nat)(rs:Nat->List Row): Prop where
 run:RunOk n ts vars rs
 pm:PermOk n f perm
 dl:ds.length=f
 ok:∀ i,i<ts.length->∀ r∈rs i,∀ u∈r,Xk u=true/\Xb u
 cap:∀ kf pf,Jzr n (Zy ts.length vars) (Qu perm f) kf pf->∀ v,v<n->(∀ l:List Row,Lt [] l->(∀ x∈l,∃ z:Row,z.length=n/\x=pmR (bk (kf v ||| 2^v) 32) z/\Ke ts.length vars rs (kf v ||| 2^v) z)->l.length<=65536) /\
  ∀ i,i<ts.length->(rs i).length<=1000∨Srt [] ((rs i).map (pmR (Qe (vars i) (kf v ||| 2^v))))
def BldV(w:World)(v:Value)(n f:Nat)(ds:List Bool)(perm:List Nat)(ts:List TA): Prop:=∃ DA dc PA pc AA ac,v=.agg #[.int .i64 (n:Int),.int .i64 (f:Int),.slice DA f dc,.slice PA perm.length pc,.slice AA ts.length ac]/\f<=dc/\RdB w DA ds/\Rd w 1 PA perm.length (Jp (nz perm))/\perm.length<=pc /\
 Rd w 3 AA ts.length (atC ts)/\ts.length<=ac/\∀ p∈ts,AtV w p.1 p.2
theorem BldV.ext{w w':World}{v:Value}{n f:Nat}{ds:List Bool}{perm:List Nat}{ts:List TA}(h:BldV w v n f ds perm ts)(hx:Ext w w'): BldV w' v n f ds perm ts:=by
 obtain⟨DA,dc,PA,pc,AA,ac,Z,O,J,G,D,C,u,o⟩:=h;exact⟨DA,dc,PA,pc,AA,ac,Z,O,Rd.ext J hx,G.ext hx,D,C.ext hx,u,λp hp=>(o p hp).ext hx⟩
section
variable {n f:Nat} {ds:List Bool} {perm:List Nat} {ts:List TA} {vars:Nat->List Nat} {rs:Nat->List Row}
theorem BldI.inp(h:BldI n f ds perm ts vars rs){v:Value}(hv:BldV w v n f ds perm ts): InV w v ⟨n,f,ds,nz perm,ts.map (·.2)⟩/\Jqm ⟨n,f,ds,nz perm,ts.map (·.2)⟩:=by
 obtain⟨DA,dc,PA,pc,AA,ac,rfl,h2,h3,h4,h5,h6,Z,O⟩:=hv;have hn:=h.run.n32;have hm:=h.run.m32;have G:=h.pm.len;have J:=h.pm.fn;have o:=h.dl;subst o;constructor
 .exact⟨_,rfl,_,_,_,rfl,⟨DA,dc,rfl,h2,by simp only;omega,h3⟩,⟨PA,pc,by rw[Je],by rw[Je];exact h5,by rw[Je];omega,by rw[Je];exact h4⟩,⟨ts,AA,ac,rfl,rfl,Z,om,h6,O⟩⟩
 refine⟨by simp only;omega,by simp only;omega,by simp only;omega,by simp only;omega,rfl,by grind [Je],λv hv=>?_,?_,Jgf h.run⟩
 .obtain⟨u,D,rfl⟩:=List.mem_map.1 hv;have:=h.pm.rng u D;simp only;omega
 exact List.Pairwise.map _ (λa b C e=>C om) h.pm.nd
theorem BldI.es(h:BldI n f ds perm ts vars rs): (Zy ts.length vars).length=ts.length/\(∀ i,i<ts.length->∀ u,((Zy ts.length vars).getD i 0).testBit u=true↔u∈vars i)/\∀ e∈Zy ts.length vars,e<2^n:=by
 refine⟨by simp[Zy],λi hi u=>?_,λe o=>?_⟩
 .grind [Zy,Qd,List.getD,edgeOf_bit]
 obtain⟨i,hi,rfl⟩:=List.mem_map.1 o;exact Jzg (h.run.lt i (List.mem_range.1 hi))
theorem BldI.elr(h:BldI n f ds perm ts vars rs){kf:Nat->Nat}(hb:Jzr n (Zy ts.length vars) (Qu perm f) kf pf)(hR:∀ v,v<n->Jdm n ts.length vars rs (kf v ||| 2^v) (R v)): ElR n f ts.length (Zy ts.length vars) perm vars rs kf pf R :=
 ⟨h.pm,h.run.n32,h.run.lt,h.run.len,h.es.1,h.es.2.1,h.es.2.2,hb,hR⟩
theorem Qdx{v:V}(h:Xk v=true): v.bytes.length<=24:=by
 unfold Xk at h;grind
theorem BldI.fit(h:BldI n f ds perm ts vars rs)(hs:s<2^n){z:Row}(hb:Ke ts.length vars rs s z): FitR (pmR (bk s 32) z)/\∀ u∈pmR (bk s 32) z,Xk u=true:=by
 have key:∀ u∈pmR (bk s 32) z,Xk u=true/\Xb u:=λu o=>by
  obtain⟨c,hc,rfl⟩:=List.mem_map.1 o;have C:=(bk_mem.1 hc).2;have D:=Jvm hs C;obtain⟨i,hi,hm⟩:=h.run.cov c D;obtain⟨j,J,e⟩:=List.getElem_of_mem hm;obtain⟨r,G,h1⟩:=hb i hi;have Z:(vars i).getD j 0=c:=by rw[Qz 0 _ J,e]
  have O:=h1 j J (by rw[Z];exact C);rw[Z]at O;rw[<-O];have a1:=h.run.len i hi r G;exact h.ok i hi r G _ (getD_mem' V0 r om)
 exact⟨⟨by grind [Xj,Yd],λu o=>⟨(key u o).2,Qdx (key u o).1⟩⟩,λu o=>(key u o).1⟩
end
theorem ElR.sb{es:List Nat}{kf:Nat->Nat}(h:ElR n f m es perm vars rs kf pf R)(hv:v<n): kf v ||| 2^v<2^n:=by
 refine Nat.lt_pow_two_of_testBit _ λi hi=>?_;cases hb:(kf v ||| 2^v).testBit i with
 | false=>rfl
 | true=>
  rw[Nat.testBit_or,Nat.testBit_two_pow,Bool.or_eq_true,decide_eq_true_eq]at hb;rcases hb with hb|hb
  .have:=(h.kbit hv hb).1;omega
  omega
theorem Qbd{kf:Nat->Nat}(h:BldI n f ds perm ts vars rs)(hb:Jzr n (Zy ts.length vars) (Qu perm f) kf pf)(hv:v<n): kf v ||| 2^v<2^n:=by
 refine Nat.lt_pow_two_of_testBit _ λi hi=>?_;cases hbt:(kf v ||| 2^v).testBit i with
 | false=>rfl
 | true=>
  rw[Nat.testBit_or,Nat.testBit_two_pow,Bool.or_eq_true,decide_eq_true_eq]at hbt;rcases hbt with hbt|hbt
  .rw[(hb v hv).2.1]at hbt;have:=Jbw (nb:=nb0 n (Zy ts.length vars)) (ord:=Qu perm f) (N:=n) (λa b o=>(Jxs h.es.2.2 o).2.1) hbt;omega
  omega
noncomputable def BBo(n f:Nat)(kf:Nat->Nat)(pf:Nat->Int)(R:Nat->List Row)(ds:List Bool)(pl:Nat->Nat)(v:Nat): List BkT:=Vg (ds.getD v false) (λx=>wtL (TV n f kf pf R ds pl) x (chK kf pf v n)) (lastC kf v) (R v)
theorem EVm: ElT Tryz.prog 136 179 1 8 (.map none):=⟨Tryz.underlying136,info_parts kr,rfl,by decide⟩
theorem ETm: ElT Tryz.prog 137 187 1 8 (.map none):=⟨Tryz.underlying137,info_parts kr,rfl,by decide⟩
theorem EU32s: ElT Tryz.prog 30 54 1 4 (.int .u32 0):=⟨Tryz.underlying30,info_parts kr,rfl,by decide⟩
theorem Xwk(z:Int)(w:World): (Instr.buildSlice 30 1 #[(0,.int .u32 z)]).run Tryz.prog w=.ok (.slice (some ⟨w.heap.size,0,none⟩) 1 1) (w.alloc (.cells [.int .u32 z].toArray 54)):=kr
theorem Qcp: Qm Tryz.prog 131=some (.agg #[.int .i64 0,.slice none 0 0]):=kr
theorem Xvm(z:Int)(w:World): (Instr.build 131 #[(0,.int .i64 z)]).run Tryz.prog w=.ok (.agg #[.int .i64 z,.slice none 0 0]) w:=kr
theorem Qct: Qm Tryz.prog 139=some (.agg #[.int .i64 0,.int .i64 0,.slice none 0 0,.slice none 0 0,.slice none 0 0,.slice none 0 0,.slice none 0 0,.slice none 0 0,.slice none 0 0,.slice none 0 0]):=kr
theorem Xvq(n f:Int)(D P A B R:Option Addr)(dn dc pn pc an ac bn bc rn rc:Nat)(w:World): (Instr.build 139 #[(0,.agg #[.int .i64 n,.int .i64 f,.slice D dn dc,.slice P pn pc,.slice A an ac]),(1,.slice B bn bc),(2,.slice R rn rc)]).run Tryz.prog w=.ok (.agg #[.int .i64 n,.int .i64 f,.slice D dn dc,.slice P pn pc,.slice A an ac,.slice B bn bc,.slice R rn rc,.slice none 0 0,.slice none 0 0,.slice none 0 0]) w:=kr
theorem Xbk(a b:List Nat): Uc (a++b)=Uc a++Uc b:=by simp[Uc]
theorem Xyn{A:Option Addr}(hA:Rd w 3 A ts.length (atC ts))(hc:ts.length<=c)(hm:ts.length<=1100000)(he:∀ p∈ts,AtV w p.1 p.2): GV 3 AtG w (.slice A ts.length c) (ts.map (·.2)):=by
 refine⟨ts.map λt=>(t.1.cells,t.2),A,c,by simp,by rw[List.length_map],by grind,by grind,?_,λp hp=>?_⟩
 .grind [List.length_map,Ju,atC,List.flatMap_map]
 obtain⟨t,ht,rfl⟩:=List.mem_map.1 hp;exact⟨rfl,t.1,rfl,he t ht⟩
theorem Xxg{sz:Nat}{g : Nat → List Value}(h : ∀ i, i < n → (g i).length = sz)(hf : f ≤ n): (Qk n g).take (f * sz) = Qk f g := by
  induction n with
  | zero => have : f = 0 := by omega
            subst this; simp [Qk]
  | succ n ih =>
    have hl := Jws (n := n) (fun i hi => h i om)
    by_cases e : f = n + 1
    . subst e
      rw [List.take_of_length_le]
      rw [Jws h]; exact nR _
    repeat grind [Kn,Nat.mul_le_mul_right]
theorem Jdn{es:List Nat}{kf:Nat->Nat}(h:ElR n f m es perm vars rs kf pf R)(hv:v<f):
  GInv (ds.getD v false) (λx=>wtL (TV n f kf pf R ds (plO perm f)) x (chK kf pf v n)) (lastC kf v) (R v) (BBo n f kf pf R ds (plO perm f) v):=Jwq (h.rlt hv) (h.rl hv)
theorem Xjl{v:Value}(hTB:TB B0 w)(hI:BldI n f ds perm ts vars rs)(hV:BldV w v n f ds perm ts):
  Ret Tryz.prog 29 [v] w λu w'=>Ext w w'/\∃(x:Value) (st:Int) (kf:Nat->Nat) (pf:Nat->Int) (R:Nat->List Row),u=.tuple #[x,.int .i64 st,.int .i64 0]/\ElR n f ts.length (Zy ts.length vars) perm vars rs kf pf R /\
   Off (λk=>k<w.heap.size) w' λW=>IxV W x f ds kf pf (λu=>if Vp n pf (TV n f kf pf R ds (plO perm f)) (ts.map (·.2))=0 then[] else BBo n f kf pf R ds (plO perm f) u) (Vp n pf (TV n f kf pf R ds (plO perm f)) (ts.map (·.2))):=by
 obtain⟨g9,fy⟩:=hI.inp hV;obtain⟨DA,dc,PA,pc,AA,ac,rfl,j2,hD,hP,iw,hA,g0,fc⟩:=id hV;have br:=hI.run.n32;have ig:=hI.run.m32;have cp:=hI.pm.fn;have iv:=hI.pm.len;have fx:=hI.dl;refine Jz Tryz.func29 Tryz.ntmps29 rfl kr rfl ?_;refine ρ ?_;refine bx ?_;intro w1 b1 en j6 fa;refine ρ ?_;refine alc Gl ?_;intro w2 b2 db hh gg;refine ρ ?_;refine ldW (fa.ext db) ?_;refine ρ ?_;refine cl (Jlt (g9.ext (en.trans db)) (by simp only;omega) (by simp only;omega)) ?_;rintro u w3 ⟨da,e,rfl,he⟩;have h9:e=0:=he.2 fy;subst h9;refine ρ ?_;have d2:=(fa.ext db).ext da;refine ld (d2.at (i:=0) rfl) ?_;refine ρ ?_;refine bld (Xvm _ _) ?_;refine ρ ?_;refine alc Qcp ?_;intro w4 b6 gq fz c8;refine ρ ?_;refine stW c8 ?_;intro w5 gf j1 gn;have dv:Ext w3 w5:=gn w3 gq fz;have dx:Ext w w3:=(en.trans db).trans da;refine ρ ?_;refine ld ((d2.ext dv).at (i:=4) rfl) ?_;refine ρ ?_;refine Jt (fun (i:Nat) (vl:Value)=>[(1,.pointer (some ⟨b1,0,none⟩)),(2,.pointer (some ⟨b2,0,none⟩)),(3,.int .i64 0),(4,.int .i64 0),(6,.pointer (some ⟨b6,0,none⟩)),(34,.slice AA ts.length ac),(35,.int .i64 (ts.length:Int)),(36,.int .i64 (i:Int))])
  (λi vl w'=>i<=ts.length/\Ext w3 w'/\Blk w' b6 131 [.int .i64 (n:Int),vl]/\w'.ownsRow w3.heap.size 54 1 vl i (Uc ((Zy ts.length vars).take i))) (λi _=>ts.length-i) 0 (.slice none 0 0) sB
  ⟨Nat.zero_le _,dv,gf,by rw[List.take_zero];exact Zj _ _ _ _⟩ ?_
 rintro i vl w6 ⟨hi,ah,c3,c7⟩;obtain⟨EA,ec,rfl,fw,h8⟩:=Jy c7;refine ρ ?_;refine ci (λh=>?_) (λh=>?_)
 .have li:i<ts.length:=by have:=oT h;omega
  clear h;have ai:=dx.trans ah;have hp:=fc _ (Jys rfl li);have f0:=hI.run.at_ i li;have e2:=hI.run.lt i li;generalize hq:ts.getD i ta0=q at hp f0
  obtain⟨⟨t1,t2,t3⟩,a⟩:=q;simp only at f0;subst f0;obtain⟨⟨QA,qc,d7,fk,fj,et⟩,d6,de⟩:=id hp;simp only at d7 d6;obtain⟨bd,PG,be,i6,d5,_⟩:=id de;simp only at d5;subst d7;subst d6;subst d5;have iy:(vars i).length<=1100000:=by have:=fj;simpa [Je] using this
  rw[Je]at et fk;have aq:∀ j u,([.slice QA (nz (vars i)).length qc,.int .i64 ((vars i).length:Int),.slice PG bd.length be]:List Value)[j]?=some u->w6.cell? ((adr AA (i*3)).add j)=some u:=λj u hu=>Gb ai (Jzp hA rfl li (by rw[hq];exact hu));rw[Je]at aq;refine ρ ?_;refine ixq 3 i (hA.ext ai) li ?_;refine ρ ?_;refine lds (cs:=[.slice QA (vars i).length qc,.int .i64 ((vars i).length:Int),.slice PG bd.length be]) aq ?_;refine ρ ?_;refine alc Yk ?_;intro w7 b8 c6 hg i5;refine ρ ?_;refine stb (cs':=[.slice QA (vars i).length qc,.int .i64 ((vars i).length:Int),.slice PG bd.length be]) i5 ?_ (Kg rfl);intro w8 ge a5 bg;have ax:Ext w6 w8:=bg w6 c6 hg;refine ρ ?_;refine ld (ge.at (i:=0) rfl) ?_;refine ρ ?_;have fl:=et.ext (ai.trans ax);refine Qf (fun (j:Nat)=>[(1,.pointer (some ⟨b1,0,none⟩)),(2,.pointer (some ⟨b2,0,none⟩)),(3,.int .i64 0),(4,.int .i64 0),(6,.pointer (some ⟨b6,0,none⟩)),(34,.slice AA ts.length ac),(35,.int .i64 (ts.length:Int)),(36,.int .i64 (i:Int)),(9,.int .u32 (Un 0 ((vars i).take j):Int)),(41,.slice QA (vars i).length qc),(42,.int .i64 ((vars i).length:Int)),(43,.int .i64 (j:Int))])
   (λj w'=>j<=(vars i).length/\w'=w8) (λj=>(vars i).length-j) 0 sB ⟨Nat.zero_le _,rfl⟩ ?_
  rintro j _ ⟨hj,rfl⟩;refine ρ ?_;refine ci (λh=>?_) (λh=>?_)
  .have lj:j<(vars i).length:=by have:=oT h;omega
   clear h;have iu:=e2 _ (getD_mem' 0 (vars i) lj);refine ρ ?_;refine ix j fl lj ?_;refine ρ ?_;refine ld (fl.cell (show(Jp (nz (vars i)))[j]?=some (.int .i64 ((vars i).getD j 0:Int)) by simp[Jp,nz,List.getD,List.getElem?_eq_getElem lj])) ?_;refine ρ ?_;refine sl32 (v:=(vars i).getD j 0) om ?_;refine ρ ?_;have i7:Un 0 ((vars i).take j)<4294967296:=nM (Jzg (l:=(vars i).take j) λv hv=>e2 v (List.mem_of_mem_take hv)) (Jxh br);rw[Jjc i7 (Kd om),<-Qwc,<-Qc 0 lj];refine ρ ?_;exact Qw (j+1) sO ⟨lj,rfl⟩ om
  have gz:j=(vars i).length:=by have:=oF h;omega
  clear h;rw[gz,List.take_length];have cz:=c3.ext ax;refine ρ ?_;refine ld (cz.at (i:=1) rfl) ?_;refine ρ ?_;refine bsl (Xwk _) ?_;intro w9 b9 cb j5 i4;have du:=ah.trans (ax.trans cb);refine ρ ?_;refine apb (m':=1) (news:=[.int .u32 (Un 0 (vars i):Int)]) EU32s (Jk c7 (ax.trans cb)) (i4.rd (n:=1) rfl) (by simp[Value.oneCell']) (by unfold maxLen;omega) om du.size ?_;intro iq bc cn e6 ie;have au:Blk bc b6 131 [.int .i64 (n:Int),.slice EA i ec]:=(cz.ext cb).grown e6 ((cz.ext cb).ne_own (Jk c7 (ax.trans cb)) rfl);obtain⟨dt,dm,rfl,_,ii⟩:=Jy cn;refine ρ ?_;refine sto (au.at (i:=1) rfl) (au.frozen 1) ?_;obtain⟨a4,bq⟩:∃ a4,a4=bc.setCell ⟨b6,1,none⟩ (.slice dt (i+1) dm):=⟨_,rfl⟩;rw[show bc.setCell ((⟨b6,0,none⟩:Addr).add 1) (.slice dt (i+1) dm)=a4 from bq.symm];have bs:GrN (λk=>k=b6) bc a4:=by rw[bq];exact GrN.set _ rfl
  have f6:Blk a4 b6 131 [.int .i64 (n:Int),.slice dt (i+1) dm]:=by rw[bq];exact au.set 1 _
  clear bq;have em:Ext w3 bc:=Qg du e6 λg Z=>(h8 g Z).1;refine ρ ?_;refine Jf (i+1) (.slice dt (i+1) dm) sO ⟨li,bs.old em λk C=>by rw[C];exact fz,f6,?_⟩ om;have e1:(Zy ts.length vars).take (i+1)=(Zy ts.length vars).take i++[Un 0 (vars i)]:=by
   rw[Qc 0 (by simp[Zy];exact li)];congr 2
   simp[Zy,List.getD,li];rfl
  rw[e1,Xbk];exact Js cn bs λg Z e=>by rw[e]at Z;exact au.ne_own cn rfl Z.symm
 have fq:i=ts.length:=by have:=oF h;omega
 clear h;have aj:=hI.es.1;rw[fq,List.take_of_length_le (by rw[aj];exact nR _)]at c7;rw[fq]at c3 fw;have fu:=hI.es.2.2;obtain⟨es,ft⟩:∃ es,es=Zy ts.length vars:=⟨_,rfl⟩;rw[<-ft]at aj fu c7;have i0:GrV w6 EA ec n es:=⟨by rw[aj];exact Rd.own c7,by rw[aj];exact fw,br,by rw[aj];omega,fu⟩;rw[<-aj]at c3;have d1:=d2.ext ah;have ai:=dx.trans ah;refine ρ ?_;refine ldW c3 ?_;refine ρ ?_;refine ld (d1.at (i:=1) rfl) ?_;refine ρ ?_;refine ld (d1.at (i:=3) rfl) ?_;refine ρ ?_;refine cl (Xxx (pc:=pc) i0 hI.pm (hP.ext ai)) ?_;rintro u w7 ⟨c6,BA,kf,pf,rfl,gx,bl⟩;rw[ft]at bl;refine ρ ?_;have ch:=ai.trans c6;have d0:=d1.ext c6;refine ld (d0.at (i:=0) rfl) ?_;refine ρ ?_;refine ld (d0.at (i:=4) rfl) ?_;refine ρ ?_;have fp:∀ v,v<n->kf v<4294967296:=λv hv=>(bl v hv).1;have gd:=Rd.own gx;refine cl (Xyh (vars:=vars) (rs:=rs) br (λv hv=>⟨hI.run,Qbd hI bl hv,λi hi r hr=>List.all_eq_true.2 λu hu=>(hI.ok i hi r hr u hu).1,(hI.cap kf pf bl v hv).2⟩) (hA.ext ch) g0 (λp hp=>(fc p hp).ext ch) gd fp (λv hv=>(hI.cap kf pf bl v hv).1)) ?_
 rintro u w8 ⟨bg,va,gm,R,rfl,fo,cy⟩;have a3:=hI.elr bl cy;have ed:=fo.here;have cv:=ed;have fg:=ch.trans bg;obtain⟨RA,rc,ir,rfl,gw,gu,g6,hl⟩:=ed.parts;rw[List.length_map,List.length_range]at gw gu g6 cv ⊢;refine ρ ?_;refine Jt (fun (k:Nat) (st:Int)=>[(1,.pointer (some ⟨b1,0,none⟩)),(2,.pointer (some ⟨b2,0,none⟩)),(12,.slice BA n n),(14,.slice RA n rc),(15,.int .i64 st),(86,.slice RA n rc),(87,.int .i64 (n:Int)),(88,.int .i64 (k:Int))])
  (λk st w'=>k<=n/\Ext w8 w') (λk _=>n-k) 0 gm sB ⟨Nat.zero_le _,Ext.refl _⟩ ?_
 rintro k st w9 ⟨C,a1⟩;refine ρ ?_;refine ci (λh=>?_) (λh=>?_)
 .have lk:k<n:=by have:=oT h;omega
  clear h;obtain⟨ce,j3,⟨⟨t1,t2,t3⟩,rfl,fb⟩,aq⟩:=hl k (by simpa using lk);simp only[List.getElem_map,List.getElem_range]at fb;obtain⟨⟨QA,qc,d7,fk,fj,et⟩,d6,df⟩:=id fb;simp only at d7 d6;obtain⟨bd,PG,be,i6,d5,_⟩:=id df;simp only at d5;subst d7;subst d6;subst d5;refine ρ ?_;refine ixq 3 k (g6.ext a1) lk ?_;refine ρ ?_;refine lds (cs:=[.slice QA (Yf (kf k ||| 2^k) (R k)).vars.length qc,.int .i64 ((Yf (kf k ||| 2^k) (R k)).ar:Int),.slice PG bd.length be]) (λj u hu=>Gb a1 (aq j u hu)) ?_;refine ρ ?_;refine alc Yk ?_;intro bc bb cg ha i3;refine ρ ?_;refine stb (cs':=[.slice QA (Yf (kf k ||| 2^k) (R k)).vars.length qc,.int .i64 ((Yf (kf k ||| 2^k) (R k)).ar:Int),.slice PG bd.length be]) i3 ?_ (Kg rfl);intro a4 f5 bs cd;have ap:Ext w9 a4:=cd w9 cg ha;refine ρ ?_;refine lds (cs:=[.int .i64 ((Yf (kf k ||| 2^k) (R k)).ar:Int),.slice PG bd.length be]) (λj u hu=>f5.sub (i:=1) (j:=j) (by rw[Nat.add_comm];exact hu)) ?_
  refine ρ ?_;refine cl (Jkl (fb.ext (a1.trans ap)).rel) ?_;rintro u ao ⟨rfl,G⟩;obtain⟨ek,fi⟩:∃ ek:Int,ek=IntKind.i64.wrap (st+((Yf (kf k ||| 2^k) (R k)).rows.length:Int)):=⟨_,rfl⟩;refine ρ ?_;rw[<-fi];refine ρ ?_;exact Jf (k+1) ek sO ⟨lk,(a1.trans ap).trans G⟩ om
 have iz:k=n:=by have:=oF h;omega
 clear h;have a2:=fg.trans a1;have aa:=(d0.ext bg).ext a1;refine ρ ?_;refine ldW aa ?_;refine ρ ?_;refine bld (Xvq _ _ _ _ _ _ _ _ _ _ _ _ _ _ _ _ _ _) ?_;refine ρ ?_;refine alc Qct ?_;intro bc o cg b4 gh;refine ρ ?_;refine stW gh ?_;intro a4 dk bs cd;have ap:Ext w9 a4:=cd w9 cg b4;have bj:∀ v,v<n->∀ x∈R v,(x.length=(bk (kf v ||| 2^v) 32).length/\FitR x)/\∀ u∈x,Xk u=true:=λv hv x hx=>by
  obtain⟨z,_,rfl,hb⟩:=((cy v hv).2.1 x).1 hx;have:=hI.fit (Qbd hI bl hv) hb;exact⟨⟨Xj _ _,this.1⟩,this.2⟩
 have hF:FixW B0 n f kf pf R (.slice RA n rc) BA w9:=⟨hTB.ext a2,gd.ext (bg.trans a1),cv.ext a1 λcs a h=>Jnk h a1,br,cp,fp,λc O e=>by have:=(a3.chf c c O e).2;omega,λv hv x hx=>(bj v hv x hx).1,λv hv=>(cy v hv).2.2⟩;have fe:Ext a4 a4.drew:=(Ext.refl a4).drew;have bm:=ap.trans fe;have eh:=(aa.ext bm);have f4:=dk.ext fe;have dz:¬ b1=o:=λe=>by have:=aa.lt;omega
 refine ρ ?_;refine drM (λk=>k=o) ?_;refine Ux (fuel':=6) [(0,0),(0,1),(0,3),(0,4)] #[true,true,false,true,true,false,false,false,false,false] kr kr rfl ?_;refine ρn ?_;refine nld (Jl (eh.at (i:=0) rfl) dz) ?_;refine ρn ?_;refine nld (Jl (eh.at (i:=0) rfl) dz) ?_;refine ρn ?_;refine Uz ?_;refine mcut 2 (lst 10 8) (fun (y:Option Addr×Option Addr)=>[(107,.slice y.2 n n),(1,.pointer (some ⟨b1,0,none⟩)),(2,.pointer (some ⟨b2,0,none⟩)),(12,.slice BA n n),(15,.int .i64 st),(18,.pointer (some ⟨o,0,none⟩))])
  (λy W=>GrN (λk=>k=o) a4.drew W/\Blk W o 139 [.int .i64 (n:Int),.int .i64 (f:Int),.slice DA f dc,.slice PA perm.length pc,.slice AA ts.length ac,.slice BA n n,.slice RA n rc,.slice y.1 n n,.slice none 0 0,.slice none 0 0] /\
   W.ownsRow a4.drew.heap.size 179 1 (.slice y.1 n n) n (List.replicate n (.map none))/\W.ownsRow a4.drew.heap.size 187 1 (.slice y.2 n n) n (List.replicate n (.map none))) ?_ ?_
 rotate_left
 .intro rest;refine Jjv 2 5 kr rfl rfl rfl ?_ ?_
  .refine mkn EVm n om (by unfold maxLen;omega) ?_;intro ao VA G a8 _;rw[Uh _ rfl]at a8;refine Jc (Xz (GrN.ext G) ?_);refine Ux (fuel':=4) [(0,6)] #[true,true,true,true,true,false,true,false,false,false] kr kr rfl ?_;refine ρn ?_;refine Uz ?_;refine Jjv 5 7 kr rfl rfl rfl ?_ ?_
   .refine mkn ETm n om (by unfold maxLen;omega) ?_;intro ab TA D a9 _;rw[Uh _ rfl]at a9;refine Jc (Xz (GrN.ext D) ?_);refine Ze 7 kr rfl rfl ?_;have ag:=(f4.ext G).ext D;refine sto (ag.at (i:=7) rfl) (ag.frozen 7) ?_;have a5:GrN (λk=>k=o) ab (ab.setCell ⟨o,7,none⟩ (.slice VA n n)):=GrN.set _ rfl;refine Jc (Xz a5 ?_);refine Gx (listed':=lst 10 8) kr ?_;refine rest (VA,TA) _ _ ⟨(GrN.ext (G.trans D)).trans a5,ag.set 7 _,Js (Jk a8 D) a5 λg Z e=>?_,Js (a9.mono G.size) a5 λg Z e=>?_⟩ sB
    .rw[e]at Z;exact ag.ne_own (Jk a8 D) rfl Z.symm
    rw[e]at Z;exact ag.ne_own a9 rfl Z.symm
   have c8:=f4.ext G;refine sto (c8.at (i:=7) rfl) (c8.frozen 7) ?_;have a5:GrN (λk=>k=o) ao (ao.setCell ⟨o,7,none⟩ (.slice VA n n)):=GrN.set _ rfl;refine Jc (Xz a5 ?_);refine Ze 5 kr rfl rfl ?_;refine mkn ETm n om (by unfold maxLen;omega) ?_;intro ab TA D a9 _;rw[Uh _ rfl]at a9;refine Jc (Xz (GrN.ext D) ?_);refine Gx (listed':=lst 10 8) kr ?_;refine rest (VA,TA) _ _ ⟨((GrN.ext G).trans a5).trans (GrN.ext D),(c8.set 7 _).ext D,Jk (Js a8 a5 λg Z e=>?_) D,a9.mono (nL G.size a5.size)⟩ sB;rw[e]at Z;exact c8.ne_own a8 rfl Z.symm
  refine mkn ETm n om (by unfold maxLen;omega) ?_;intro ao TA G af _;rw[Uh _ rfl]at af;refine Jc (Xz (GrN.ext G) ?_);refine Ze 2 kr rfl rfl ?_;refine mkn EVm n om (by unfold maxLen;omega) ?_;intro ab VA D b7 _;rw[Uh _ rfl]at b7;refine Jc (Xz (GrN.ext D) ?_);refine Ux (fuel':=3) [(0,6)] (lst 10 7) kr kr rfl ?_;refine ρn ?_;refine Uz ?_;refine Ze 7 kr rfl rfl ?_;have ag:=(f4.ext G).ext D;refine sto (ag.at (i:=7) rfl) (ag.frozen 7) ?_;have a5:GrN (λk=>k=o) ab (ab.setCell ⟨o,7,none⟩ (.slice VA n n)):=GrN.set _ rfl;refine Jc (Xz a5 ?_);refine Gx (listed':=lst 10 8) kr ?_;refine rest (VA,TA) _ _ ⟨(GrN.ext (G.trans D)).trans a5,ag.set 7 _,Js (b7.mono G.size) a5 λg Z e=>?_,Js (Jk af D) a5 λg Z e=>?_⟩ sB
  .rw[e]at Z;exact ag.ne_own b7 rfl Z.symm
  rw[e]at Z;exact ag.ne_own (Jk af D) rfl Z.symm
 rintro⟨VA,TA⟩ ao ⟨dg,an,a8,af⟩;simp only at an a8 af;refine Ux (fuel':=1) [(0,8)] (lst 10 9) kr kr rfl ?_;refine ρn ?_;refine Uz ?_;refine Ze 9 kr rfl rfl ?_;refine sto (an.at (i:=8) rfl) (an.frozen 8) ?_;have b3:GrN (λk=>k=o) ao (ao.setCell ⟨o,8,none⟩ (.slice TA n n)):=GrN.set _ rfl;refine Jc (Xz b3 ?_);refine Jwb kr ?_;obtain⟨ab,bp⟩:∃ ab,ab=ao.setCell ⟨o,8,none⟩ (.slice TA n n):=⟨_,rfl⟩;have f9:Blk ab o 139 [.int .i64 (n:Int),.int .i64 (f:Int),.slice DA f dc,.slice PA perm.length pc,.slice AA ts.length ac,.slice BA n n,.slice RA n rc,.slice VA n n,.slice TA n n,.slice none 0 0]:=by rw[bp];exact an.set 8 _
 rw[<-bp]at b3;rw[show ao.setCell ((⟨o,0,none⟩:Addr).add 8) (.slice (VA,TA).2 n n)=ab from bp.symm];clear bp;have b7:=Js a8 b3 λg Z e=>by rw[e]at Z;exact an.ne_own a8 rfl Z.symm
 have a9:=Js af b3 λg Z e=>by rw[e]at Z;exact an.ne_own af rfl Z.symm
 have bf:Ext w9 ab:=b3.old (dg.old bm λk C=>by rw[C];exact b4) λk C=>by rw[C];exact b4
 refine ρ ?_;refine ld ((aa.ext bf).at (i:=1) rfl) ?_;refine ρ ?_;refine mkn EBks f om (by unfold maxLen;omega) ?_;intro d8 KA bn eb _;rw[Uh _ rfl]at eb;refine ρ ?_;have c5:=f9.ext bn;refine sto (c5.at (i:=9) rfl) (c5.frozen 9) ?_;obtain⟨aw,bo⟩:∃ aw,aw=d8.setCell ⟨o,9,none⟩ (.slice KA f f):=⟨_,rfl⟩;have e5:GrN (λk=>k=o) d8 aw:=by rw[bo];exact GrN.set _ rfl
 have gi:Blk aw o 139 (bCs n f (.slice DA f dc) (.slice PA perm.length pc) (.slice AA ts.length ac) BA n (.slice RA n rc) VA n TA n (.slice KA f f)):=by rw[bo];exact c5.set 9 _
 rw[show d8.setCell ((⟨o,0,none⟩:Addr).add 9) (.slice KA f f)=aw from bo.symm];clear bo;have bh:∀ {t:Nat} {v:Value} {xs:List Value} {b m:Nat},d8.ownsRow b t 1 v m xs->Nat.beq t 139=false->aw.ownsRow b t 1 v m xs:=λho gy=>Js ho e5 λg Z e=>by rw[e]at Z;exact c5.ne_own ho gy Z.symm
 have ca:Ext w9 aw:=e5.old (bf.trans bn) λk C=>by rw[C];exact b4
 have g4:=bh ((Jk b7 bn).mono bm.size) rfl;have g5:=bh ((Jk a9 bn).mono bm.size) rfl;have g8:=bh (eb.mono bf.size) rfl;have g3:BldW w9 o n (bCs n f (.slice DA f dc) (.slice PA perm.length pc) (.slice AA ts.length ac) BA n (.slice RA n rc) VA n TA n (.slice KA f f)) VA n TA n aw (List.replicate n (.map none)) (List.replicate n (.map none)):=⟨ca,gi,g4,g5⟩;obtain⟨T,hT⟩:∃ T,T=TV n f kf pf R ds (plO perm f):=⟨_,rfl⟩;have f3:∀ c,f<=c->∀ k,T c k<=1:=λc O k=>by rw[hT];exact Jnq a3.chf c O k
 have f2:∀ c k,T c k<=4294967296^20:=λc k=>by rw[hT];exact a3.big c k
 have f8:=aa.ext ca;refine ρ ?_;refine ld (f8.at (i:=3) rfl) ?_;have j7:(Value.slice KA f f)=Value.slice KA f f:=rfl;obtain⟨AR,fd⟩:∃ AR:Nat->Prop,AR=λk=>ARk n f VA n TA n (.slice KA f f) k∨k=b2∨k<w.heap.size:=⟨_,rfl⟩;have d4:∀ k,ARk n f VA n TA n (.slice KA f f) k->AR k:=λk C=>by rw[fd];exact .inl C
 have e7:b2<w9.heap.size:=nM gg.lt (da.trans (ah.trans (c6.trans (bg.trans a1)))).size;have d3:∀(W:World) (va ta ba:List Value),Ext w9 W->W.ownsRow w9.heap.size 179 1 (.slice VA n n) n va->W.ownsRow w9.heap.size 187 1 (.slice TA n n) n ta->W.ownsRow w9.heap.size 87 1 (.slice KA f f) f ba->∀ k,AR k->k<W.heap.size:=λW va ta ba ff hv ht hb k C=>by
  rw[fd]at C;rcases C with(C|C|C)|C|C
  .exact((Jy hv).choose_spec.choose_spec.2.2 k C).2
  .exact((Jy ht).choose_spec.choose_spec.2.2 k C).2
  .exact((Jy hb).choose_spec.choose_spec.2.2 k C).2
  .rw[C];exact nM e7 ff.size
  exact nM C (a2.trans ff).size
 have lV:∀ {W:World} {xs:List Value},W.ownsRow w9.heap.size 179 1 (.slice VA n n) n xs->∀ g,(Value.slice VA n n).ownBlock=some g->w9.heap.size<=g/\g<W.heap.size:=λho=>(Jy ho).choose_spec.choose_spec.2.2;have gj:∀ k,(Value.slice VA n n).ownBlock=some k->AR k:=λk C=>d4 k (.inl C);refine ρ ?_;refine Jt (fun (i:Nat) (va:List Value)=>[(1,.pointer (some ⟨b1,0,none⟩)),(2,.pointer (some ⟨b2,0,none⟩)),(12,.slice BA n n),(15,.int .i64 st),(18,.pointer (some ⟨o,0,none⟩)),(115,.slice PA perm.length pc),(116,.int .i64 (perm.length:Int)),(117,.int .i64 (i:Int))])
  (λi va w'=>i<=perm.length/\BldW w9 o n (bCs n f (.slice DA f dc) (.slice PA perm.length pc) (.slice AA ts.length ac) BA n (.slice RA n rc) VA n TA n (.slice KA f f)) VA n TA n w' va (List.replicate n (.map none)) /\
   w'.ownsRow w9.heap.size 87 1 (.slice KA f f) f (List.replicate f (.slice none 0 0))/\∀ c,c<n->plO perm f c<i->f<=c->DnV AR (T c) w' (va.getD c (.map none))) (λi _=>perm.length-i) 0 _ sB
  ⟨Nat.zero_le _,g3,g8,λc O h=>om⟩ ?_
 rintro i va ej ⟨hi,a7,bw,dh⟩;have ea:Rd ej 1 PA perm.length (Jp (nz perm)):=hP.ext (a2.trans a7.ext);refine ρ ?_;refine ci (λh=>?_) (λh=>?_)
 .have li:i<perm.length:=by have:=oT h;omega
  clear h;obtain⟨v,hv⟩:∃ v,v=perm.getD i 0:=⟨_,rfl⟩;have dd:=hI.pm.rng v (by rw[hv];exact getD_mem' 0 perm li);have ib:plO perm f v=i:=by rw[hv];exact hI.pm.plPerm li
  refine ρ ?_;refine ix i ea li ?_;refine ρ ?_;refine ld (ea.cell (show(Jp (nz perm))[i]?=some (.int .i64 (v:Int)) by rw[hv];simp[Jp,nz,List.getD,List.getElem?_eq_getElem li])) ?_;refine ρ ?_;refine cl (Qml (AR:=AR) hF a7 dd.2 (λc O hp hf=>?_) (λc O hp hf=>?_) f3 f2 d4 (d3 _ _ _ _ a7.ext a7.va a7.ta bw)) ?_
  .have:=(a3.chf c v O hp).2;exact dh c O om hf
  .have h1:=(a3.chf c v O hp).2;have h2:=hI.pm.plLow hf dd.1 dd.2;omega
  rintro u c9 ⟨rfl,mv,J,e4,gc⟩;have ew:GrN AR ej c9:=e4.mono λk _ C=>gj k C;have ak:=Js bw e4 λg Z e=>by
   have h1:=a7.va;rcases h1.2 with⟨h2,_⟩|⟨g1,c1,cu1,h2,_,h3,_⟩
   .rw[h2]at e;simp[Value.ownBlock]at e
   rcases bw.2 with⟨h4,_⟩|⟨g2,c2,cu2,h4,_,h5,_⟩
   .rw[h4]at Z;simp[Value.ownBlock]at Z
   rw[h2]at e;rw[h4]at Z;simp only[Value.ownBlock,Option.some.injEq]at e Z;subst e;subst Z;rw[h3]at h5;injection h5 with h5
   injection h5 with _ h6
   exact absurd h6 (by decide)
  refine ρ ?_;refine Jf (i+1) (va.set v mv) sO ⟨li,J,ak,λc O ic hf=>?_⟩ om;have i9:va.length=n:=by have:=a7.va.1;omega
  by_cases e:c=v
  .subst e;rw[getD_set' (.map none) va c c mv om,if_pos rfl,hT,Jvs a3.chf O hf,<-hT];exact gc
  rw[getD_set' (.map none) va v c mv om,if_neg e];refine(dh c O ?_ hf).gr ew;rcases Nat.lt_or_ge (plO perm f c) i with h'|h'
  .exact h'
  exact absurd (hI.pm.inj O dd.2 om) e
 have ih:i=perm.length:=by have:=oF h;omega
 clear h;have am:∀ c,c<n->f<=c->DnV AR (T c) ej (va.getD c (.map none)):=λc O hf=>dh c O (by
  have hm:c∈perm:=by
   rcases List.mem_append.1 (hI.pm.omem.2 O) with h1|h1
   .exact h1
   have:=List.mem_range.1 (List.mem_reverse.1 h1);omega
  obtain⟨j,hj,e⟩:=List.getElem_of_mem hm;have:=hI.pm.plPerm hj;rw[Qz 0 _ hj,e]at this;omega) hf
 have dj:=aa.ext a7.ext;refine ρ ?_;refine ld (dj.at (i:=1) rfl) ?_;refine ρ ?_;refine Xm (fun (i:Nat) (ta ba:List Value)=>[(1,.pointer (some ⟨b1,0,none⟩)),(2,.pointer (some ⟨b2,0,none⟩)),(12,.slice BA n n),(15,.int .i64 st),(18,.pointer (some ⟨o,0,none⟩)),(125,.int .i64 (f:Int)),(126,.int .i64 (i:Int))])
  (λi ta ba w'=>i<=f/\BldW w9 o n (bCs n f (.slice DA f dc) (.slice PA perm.length pc) (.slice AA ts.length ac) BA n (.slice RA n rc) VA n TA n (.slice KA f f)) VA n TA n w' va ta /\
   w'.ownsRow w9.heap.size 87 1 (.slice KA f f) f ba/\(∀ c,c<n->f<=c->DnV AR (T c) w' (va.getD c (.map none))) /\
   ∀ c,c<f->f-i<=c->DnT AR (T c) w' (ta.getD c (.map none))/\DnB AR (ds.getD c false) w' (ba.getD c (.slice none 0 0)) (BBo n f kf pf R ds (plO perm f) c)) (λi _ _=>f-i) 0 _ _ sB
  ⟨Nat.zero_le _,a7,bw,am,λc O h=>om⟩ ?_
 clear dh am;rintro i ta ba c9 ⟨hi,J,ak,am,bz⟩;have c4:=aa.ext J.ext;refine ρ ?_;refine ci (λh=>?_) (λh=>?_)
 .have li:i<f:=by have:=oT h;omega
  clear h;obtain⟨v,hv⟩:∃ v,v=f-1-i:=⟨_,rfl⟩;have cj:v<f:=om
  have gt:v<n:=om
  refine ρ ?_;refine ld (c4.at (i:=1) rfl) ?_;refine ρ ?_;refine Go.Wk.kv 133 (show Value.int .i64 ((f:Int)-1-(i:Int))=.int .i64 (v:Int) by congr 1;omega) ?_;refine cl (Xqz (v:=v) (AR:=AR) hF fx (Rd.ext hD a2) J ak cj (by rw[(a3.lastC cj).2];omega) (λx hx=>?_) (a3.rlt cj) (λc O hp hf=>am c O hf) (λc O hp hf=>?_) f3 f2 d4 (d3 _ _ _ _ J.ext J.va J.ta ak)) ?_
  .have h1:=bj v gt x hx;refine h1.2 _ (getD_mem' V0 x ?_);rw[h1.1.1,(a3.lastC cj).2];omega
  .have h1:=(a3.chf c v O hp).2;have h2:plO perm f c<plO perm f v:=h1;rw[hI.pm.plFree hf,hI.pm.plFree cj]at h2;exact(bz c hf om).1
  rintro u ei ⟨rfl,mv,lv,b5,cr,co,ga,gb⟩;have eB:Vg (ds.getD v false) (λx=>wtL T x (chK kf pf v n)) ((bk (kf v ||| 2^v) 32).length-1) (R v)=BBo n f kf pf R ds (plO perm f) v:=by rw[hT];rfl
  rw[eB]at ga gb;have ia:ta.length=n:=by have:=J.ta.1;omega
  have ij:ba.length=f:=by have:=ak.1;omega
  refine ρ ?_;refine Qp (i+1) (ta.set v mv) (ba.set v lv) sO ⟨li,b5,cr,λc O hf=>(am c O hf).gr co,λc O j4=>?_⟩ om;by_cases e:c=v
  .subst e;rw[getD_set' (.map none) ta c c mv om,if_pos rfl,getD_set' (.slice none 0 0) ba c c lv om,if_pos rfl];refine⟨?_,gb⟩;rw[hT,Jdk a3.chf cp O];exact ga
  rw[getD_set' (.map none) ta v c mv om,if_neg e,getD_set' (.slice none 0 0) ba v c lv om,if_neg e];have:=bz c O om;exact⟨this.1.gr co,this.2.gr co⟩
 have j0:i=f:=by have:=oF h;omega
 clear h;have er:∀ c,c<n->pf c = -1->f<=c->∀ k,0<T c k->k=[]:=λc O hp hf k C=>by
  rw[hT,Jvs a3.chf O hf,redT_pos]at C;obtain⟨x,_,_,e⟩:=C;have h1:∀ u,(kf c).testBit u=false:=by
   rcases a3.par O with⟨_,h1⟩|⟨p,h1,_⟩
   .exact h1
   rw[h1]at hp;omega
  have h2:Zl kf c=[]:=by
   unfold Zl Qe;refine List.filter_eq_nil_iff.2 λu _ hu=>?_;rw[h1]at hu;cases hu
  rw[h2]at e;exact e.symm
 have cw:∀ c,c<f->DnT AR (T c) c9 (ta.getD c (.map none))/\DnB AR (ds.getD c false) c9 (ba.getD c (.slice none 0 0)) (BBo n f kf pf R ds (plO perm f) c):=λc O=>bz c O om;clear bz;refine ρ ?_;refine cl (Qgh (AR:=AR) hF J (Xyn (hA.ext a2) g0 om λp hp=>(fc p hp).ext a2) (λc O=>?_) (λc O hf=>am c O hf) (λc O hf=>(cw c hf).1) er f3 f2) ?_
 .rcases a3.par O with⟨h1,_⟩|⟨p,h1,_⟩
  .exact .inl h1
  exact .inr ⟨p,h1⟩
 rintro u ei ⟨ep,h7,ay⟩;have ey:b2<c9.heap.size:=nM e7 J.ext.size;obtain⟨tot,cm⟩:∃ tot,tot=Vp n pf T (ts.map (·.2)):=⟨_,rfl⟩
 rw[<-cm]at ep;rw[hT]at cm;obtain⟨dn,d9,rfl,ck⟩:=Jhx ep;have fh:NatX (λk=>k=b2∨k<w.heap.size) ei (.slice dn (Jq tot).length d9) tot:=h7.x ep λk C=>by
  rcases C with C|C
  .rw[C];exact ey
  exact nM C (a2.trans J.ext).size
 have b5:=J.ext' ay;have cr:=Jk ak ay;refine ρ ?_;refine Zw (fun (y:Option Addr×List Value)=>[(1,.pointer (some ⟨b1,0,none⟩)),(2,.pointer (some ⟨b2,0,none⟩)),(12,.slice BA n n),(15,.int .i64 st),(18,.pointer (some ⟨o,0,none⟩)),(23,.slice dn (Jq tot).length d9)])
  (λy w'=>Ext w9 w'/\Blk w' o 139 (bCs n f (.slice DA f dc) (.slice PA perm.length pc) (.slice AA ts.length ac) BA n (.slice RA n rc) VA n TA n (.slice y.1 f f))/\Rd w' 1 y.1 f y.2/\NatX (λk=>k=b2∨k<w.heap.size) w' (.slice dn (Jq tot).length d9) tot /\
   ∀ c,c<f->DnB AR (ds.getD c false) w' (y.2.getD c (.slice none 0 0)) (if tot=0 then[] else BBo n f kf pf R ds (plO perm f) c)) ?_ ?_
 .refine ci (λh=>?_) (λh=>?_)
  .have h0:tot=0:=by
    have:=Xa h;rcases Nat.eq_zero_or_pos tot with h'|h'
    .exact h'
    have:=ck.2 h';omega
   clear h;have di:=c4.ext ay;refine ρ ?_;refine ld (di.at (i:=1) rfl) ?_;refine ρ ?_;refine mkn EBks f om (by unfold maxLen;omega) ?_;intro av dq dw cq _;rw[Uh _ rfl]at cq;refine ρ ?_;have a6:=b5.blk.ext dw;refine sto (a6.at (i:=9) rfl) (a6.frozen 9) ?_;have e3:GrN (λk=>k=o) av (av.setCell ⟨o,9,none⟩ (.slice dq f f)):=GrN.set _ rfl;have eu:Ext ei (av.setCell ⟨o,9,none⟩ (.slice dq f f))∨True:=.inr trivial;clear eu;refine ρ ?_;refine Jb (dq,List.replicate f (.slice none 0 0)) sB ⟨e3.old ((J.ext.trans ay).trans dw) λk C=>by rw[C];exact b4,a6.set 9 _,Rd.own (Js cq e3 λg Z e=>by rw[e]at Z;exact a6.ne_own cq rfl Z.symm),?_,λc O=>?_⟩
   .have e0:(Jq tot).length=0:=by rw[h0,limbs_0];rfl
    rw[e0,h0];exact⟨⟨dn,d9,by rw[limbs_0];rfl,by rw[limbs_0];simp,by rw[limbs_0];simp,by rw[limbs_0];exact Rd.nil⟩,λh=>absurd rfl h⟩
   rw[if_pos h0];have:(List.replicate f (Value.slice none 0 0)).getD c (.slice none 0 0)=.slice none 0 0:=by simp[List.getD,O]
   rw[this];exact DnB.nil _ _ _
  have h0:¬ tot=0:=λe=>by
   have h1:=Zq h;have h2:¬ 0<(Jq tot).length:=λh'=>by have:=ck.1 h';omega
   omega
  clear h;refine ρ ?_;refine Jb (KA,ba) sB ⟨b5.ext,b5.blk,Rd.own cr,fh,λc O=>?_⟩;rw[if_neg h0];exact(cw c O).2.ext ay
 rintro⟨dq,j8⟩ av ⟨el,a6,e9,eo,cx⟩;simp only at a6 e9 cx;have ad:Ext av av.drew:=(Ext.refl av).drew;have ae:=el.trans ad;have ef:=aa.ext ae;have i2:=a6.ext ad;have e8:¬ b1=b2:=λe=>by have:=fa.lt;omega
 have ez:¬ o=b2:=λe=>by omega
 have ee:=((gg.ext (da.trans (ah.trans (c6.trans (bg.trans a1))))).ext ae);refine ρ ?_;refine drM (λk=>k=b2) ?_;refine Ux (fuel':=0) [(0,0),(0,1),(0,2),(0,3),(0,4),(0,5),(0,6),(0,7),(0,8),(0,10),(1,9),(1,11),(0,12),(0,13)] (lst 14 14) kr kr rfl ?_;refine ρn ?_;refine nld (Jl (ef.at (i:=2) rfl) e8) ?_;refine ρn ?_;refine nld (Jl (ef.at (i:=1) rfl) e8) ?_;refine ρn ?_;refine nslh f ?_ cp;refine ρn ?_;refine nld (Jl (i2.at (i:=9) rfl) ez) ?_;refine ρn ?_;have i1:Rd av.drew 3 BA f (Qk f (Qr kf pf)):=by
  have h1:=(hF.bags.ext ae).take cp;rw[Xxg (sz:=3) (g:=Qr kf pf) (λ_ _=>rfl) cp]at h1;exact h1
 refine nop ?_;refine cl (Xyq (M:=λk=>k=b2∨k<w.heap.size) (hTB.ext (a2.trans ae)) fx om (Rd.ext hD (a2.trans ae)) i1 (e9.ext ad) (λu hu=>((cx u hu).old λk C=>.inl (by rw[fd];exact .inr C)).ext ad) (eo.ext ad) (λk C=>by
  rcases C with C|C
  .rw[C];exact ee.lt
  exact nM C (a2.trans ae).size) (λu hu b hb=>?_) (λu hu=>?_)) ?_
 .split at hb
  .cases hb
  obtain⟨y,hy,e1,_⟩:=entL_ne.1 ((Jdn a3 hu).con b hb).2;have h1:=(bj u om y hy).1.2;rw[<-e1];exact⟨by have:=h1.1;rw[List.length_take];omega,λz hz=>h1.2 z (List.mem_of_mem_take hz)⟩
 .split
  .exact List.Pairwise.nil
  exact(Jdn a3 hu).lt
 rintro xi gl ⟨g7,hw,cc⟩;obtain⟨xD,il,xB,ip,xK,io,xP,im,xt,_,_,rfl,_,_,_,_,_,_,⟨xT,ik,rfl,_⟩,_⟩:=hw.ex;refine ρ ?_;refine Jm (GrN.ext cc) ?_;refine ρn ?_;refine nop ?_;refine stW (ee.ext cc) ?_;intro gk f7 fr i8;have bi:GrN (λk=>k=b2) gl gk:=GrN.by fr λk C=>by injection C with C;exact C.symm
 refine ρ ?_;refine Jm bi ?_;refine ρn ?_;refine Uz ?_;refine Jwb kr ?_;refine ρ ?_;refine Jzd f7 ⟨bi.old ((a2.trans ae).trans cc) λk C=>by rw[C];exact nL en.size hh,_,st,kf,pf,R,rfl,a3,?_⟩;rw[<-cm];exact(g7.gr (bi.mono λk _ C=>.inl C)).mono λk _ C=>.inr C
end Go.Proofs.YtbcdghbonlifdaaGreatDoor
namespace Go.Wk
open Go.RowKit Maps
variable {d n ty:Nat}
theorem dmlo{P:Program}{al:AL}{w:World}{Q:Exit->Act->World->Prop}{ops:Array Oper}{drest:List (Nat×Oper)}{pos:String}{aft:Array Edge}{tt:TT}[hT:Tab P tt]{t k e b m:Nat}{kd:TK}{f:Lit->Option Value}{x y:Operand}{key z:Value}{kl:Lit}(K:Keyed P k)(hM:MapS P k w b m f)(hz:Qm P e=some z)(hkey:keyOf P k key=some kl)(kk:WD P n ops Q drest ((d,.tuple #[(f kl).getD z,.bool (f kl).isSome])::al) w)(ht:tk tt t=some kd:=by rfl)(hk:kd.desc=.map k e:=by rfl)(hx:ev al x=some (.map (some b)):=by rfl)(hy:ev al y=some key:=by rfl)(hd:Nat.blt d n=true:=by rfl):
  WD P n ops Q ((0,⟨some d,.lookup t x y true,ty,pos,aft,none⟩)::drest) al w :=
 dy (λw' u a o=>by
  have:=((hM.ext u).look K (Vr hT.ok ht hk rfl) (Jfz hz w') hkey).1;simp[execOp,o.ev hx,o.ev hy,this]) hd kk
end Go.Wk
namespace Go.Proofs.YtbcdghbonlifdaaGreatDoor
open Go.RowKit Pl Go.Wk
attribute [local irreducible] WC WL QX WD WDB WP WN WG
variable {B0 c v:Nat}{A:Option Addr}{k y:Row}
def trK(bs:List BkT)(k:Row): Tr:=match bs.find? λb=>decide (b.1=k) with
 | some b=>b.2
 | none=>.nil
theorem Jfg(bs:List BkT)(k:Row): (trK bs k).toL=entK bs k:=by
 unfold trK entK;cases bs.find? λb=>decide (b.1=k)<;>rfl
theorem Qkb: ∀ {bs:List BkT} {k:Row} {i:Nat},Zg bs k=some i->∃ b,bs[i]?=some b/\trK bs k=b.2/\b∈bs
 | [],_,_,h=>by simp[Zg]at h
 | b::bs,k,i,h=>by
  unfold Zg at h;rw[List.findIdx?_cons]at h;by_cases e:b.1=k
  .grind [Option.some.injEq,trK,List.mem_cons_self]
  simp only[e,decide_false]at h;obtain⟨j,hj,rfl⟩:=Option.map_eq_some_iff.1 h;obtain⟨b',h1,h2,h3⟩:=Qkb (bs:=bs) (k:=k) hj;grind [trK,List.mem_cons_of_mem]
theorem Jls{bs:List BkT}(h:Zg bs k=none): trK bs k=.nil:=by grind [Zg,List.findIdx?_eq_none_iff,List.find?_eq_none.2,trK]
theorem Qyt{s u:Nat}(h:s<2^u): ∀ k,u<=k->bk s k=bk s u
 | 0,hk=>by(have:u=0:=by omega);(rw[this])
 | k+1,hk=>by
  by_cases e:u=k+1
  .rw[e]
  rw[Gc,Qyt h k om];grind [Nat.testBit_lt_two_pow,Nat.lt_of_lt_of_le,Nat.pow_le_pow_right]
theorem Jcz(v:V)(w:World): (Instr.buildSlice 46 1 #[(0,v.val)]).run Tryz.prog w=.ok (.slice (some ⟨w.heap.size,0,none⟩) 1 1) (w.alloc (.cells v.cells.toArray 118)):=kr
section
variable {w:World} {x:Value} {f:Nat} {ds:List Bool} {kf:Nat->Nat} {pf:Nat->Int} {BB:Nat->List BkT} {tot:Nat}
theorem Jch(h:IxV w x f ds kf pf BB tot): Ret Tryz.prog 62 [x] w λu w'=>u=.int .i64 (f:Int)/\Ext w w':=by
 obtain⟨DA,dc,BA,cb,KA,ck,PA,cp,tv,J,G,rfl,O,Z,hD,hB,hK,hP,C,hv⟩:=h.ex;obtain⟨TA,tc,rfl,_⟩:=id C;refine Jz Tryz.func62 Tryz.ntmps62 rfl kr rfl ?_;refine ρ ?_;refine bx ?_;intro w1 b o hb D;refine ρ ?_;refine ld (D.at (i:=0) rfl) ?_;refine ρ ?_;exact Jj ⟨rfl,o⟩
theorem Qzl(h:IxV w x f ds kf pf BB tot)(hv:v<f): Ret Tryz.prog 76 [x,.int .i64 (v:Int)] w λu w'=>u=.bool true/\Ext w w':=by
 obtain⟨DA,dc,BA,cb,KA,ck,PA,cp,tv,J,G,rfl,Z,a1,hD,hB,hK,hP,C,O⟩:=h.ex;obtain⟨TA,tc,rfl,_⟩:=id C;refine Jz Tryz.func76 Tryz.ntmps76 rfl kr rfl ?_;refine ρ ?_;refine bx ?_;intro w1 b o hb D;refine ρ ?_;refine kt 7 ?_ ?_
 .grind
 refine ρ ?_;refine ld (D.at (i:=0) rfl) ?_;refine ρ ?_;refine Jj ⟨?_,o⟩;grind
theorem Jxx(h:IxV w x f ds kf pf BB tot)(hn:Nb tot): Ret Tryz.prog 32 [x] w λu w'=>NatV w' u tot/\Fresh w u/\Ext w w':=by
 obtain⟨DA,dc,BA,cb,KA,ck,PA,cp,tv,Z,O,rfl,a1,a2,hD,hB,hK,hP,C,hv⟩:=h.ex;obtain⟨TA,tc,rfl,_⟩:=id C;refine Jz Tryz.func32 Tryz.ntmps32 rfl kr rfl ?_;refine ρ ?_;refine bx ?_;intro w1 b o hb J;refine ρ ?_;refine ld (J.at (i:=4) rfl) ?_;refine ρ ?_;refine cl (Jkx (C.ext o) hn.len) ?_;rintro u w2 ⟨h2,G,D⟩;refine ρ ?_;exact Jj ⟨h2,λad m c e=>nL o.size (G ad m c e),o.trans D⟩
theorem Xjm(h:IxV w x f ds kf pf BB tot): Ret Tryz.prog 135 [x] w λu w'=>(∃ A c,u=.slice A f c/\f<=c/\Rd w' 3 A f (Qk f (Qr kf pf))/\∀ ad,A=some ad->w.heap.size<=ad.block)/\Ext w w':=by
 obtain⟨DA,dc,BA,cb,KA,ck,PA,cp,tv,a2,a1,rfl,a3,a4,hD,hB,hK,hP,D,hv⟩:=h.ex;obtain⟨TA,tc,rfl,_⟩:=id D;have f32:=h.f32;refine Jz Tryz.func135 Tryz.ntmps135 rfl kr rfl ?_;refine ρ ?_;refine bx ?_;intro w1 b o hb Z;refine ρ ?_;refine ld (Z.at (i:=1) rfl) ?_;refine ρ ?_;refine cl (Qvv (hB.ext o) (Qkn _ _ _) om) ?_;rintro _ w2 ⟨⟨A2,c2,rfl,J,O,G⟩,C⟩;refine ρ ?_;exact Jj ⟨⟨A2,c2,rfl,J,O,λad e=>nL o.size (G ad e)⟩,o.trans C⟩
theorem zIntv: Qm Tryz.prog 3=some (.int .i64 0):=kr
theorem Xwx(w:World): (Instr.build 91 #[]).run Tryz.prog w=.ok (.agg #[.bool false,.pointer none]) w:=kr
theorem Qzp{w0:World}(hTB:TB B0 w)(h0:Ext w0 w)(h:IxV w0 x f ds kf pf BB tot)(hv:v<f)(hk:RdR w A k)(hfit:FitR k):
  Ret Tryz.prog 90 [x,.int .i64 (v:Int),.slice A k.length c] w λu w'=>∃ d p,u=.tuple #[.agg #[.bool d,.pointer p],.bool (Zg (BB v) k).isSome]/\TrV (λ_=>False) w0 (trK (BB v) k) (.pointer p)/\((Zg (BB v) k).isSome=true->d=ds.getD v false)/\Ext w w':=by
 obtain⟨DA,dc,BA,cb,KA,ck,PA,cp,tv,a8,aj,rfl,b5,b7,hD,hB,hK,hP,ao,an⟩:=id h.ex;obtain⟨TA,tc,rfl,_⟩:=id ao;obtain⟨av,mb,m,fm,ba,hm,⟨hM,_⟩,au⟩:=an v hv;have aq:aj[v]?=some (.map (some mb)):=by grind
 have ac:a8[v]?=some (a8.getD v (.slice none 0 0)):=by
  have:=hK.len;grind
 refine Jz Tryz.func90 Tryz.ntmps90 rfl kr rfl ?_;refine ρ ?_;refine bx ?_;intro w1 b Z hb ag;refine ρ ?_;refine alc Gg ?_;intro w2 b6 O ad aw;refine ρ ?_;refine ldW (ag.ext O) ?_;refine ρ ?_;refine cl (Qzl (h.ext (h0.trans (Z.trans O))) hv) ?_;rintro _ w3 ⟨rfl,a5⟩;have ab:=(Z.trans O).trans a5;have a3:Ext w3 w3.drew:=(Ext.refl w3).drew;have C:=ab.trans a3;have a1:=h0.trans C;have ah:=((ag.ext O).ext a5).ext a3;refine ρ ?_;refine dr [(0,0),(0,1),(0,2),(0,3),(0,4),(0,5),(1,6),(0,7),(0,8),(0,9),(0,10),(0,11),(0,12)] kr ?_;refine ρd ?_;refine dld (ah.at (i:=3) rfl) ?_;refine ρd ?_;refine dix v (hP.ext a1) hv ?_;refine ρd ?_;refine dld ((hP.ext a1).cell aq) ?_;refine ρd ?_;refine dcl (Jzb (r:=k) (hTB.ext C) (hk.ext C) (λu hu=>(hfit.2 u hu).1) (by have:=hfit.len;omega) (by have:=hfit.1;omega)) ?_;rintro _ w4 ⟨rfl,J⟩;refine⟨J,?_⟩;have D:=C.trans J
 have o:=h0.trans D;refine ρd ?_;refine dmlo KS (hM.ext o) zIntv (Gt hfit) ?_;rw[au];have a2:=((aw.ext a5).ext a3).ext J;cases hix:Zg (BB v) k with
 | none=>
  refine ρd ?_;refine ρ ?_;refine bld (Xwx _) ?_;refine ρ ?_;refine stW a2 ?_;intro w5 G ar a4;refine ρ ?_;refine Zh G ⟨false,none,rfl,?_,(λh=>by cases h),a4 w D (nL Z.size ad)⟩;rw[Jls hix];rfl
 | some i=>
  obtain⟨bt,a7,ap,b8⟩:=Qkb hix;obtain⟨ps,GA,gc,ai,ay,b4,b1,af,b9,ae⟩:=av;have li:i<ps.length:=by have:=(List.getElem?_eq_some_iff.1 a7).1;rw[ai,List.length_map]at this;exact this
  obtain⟨z,hz⟩:∃ z,z=ps[i]:=⟨_,rfl⟩;have ak:z∈ps:=by rw[hz];exact List.getElem_mem li
  have am:z.2=bt:=by
   rw[ai,List.getElem?_map,List.getElem?_eq_getElem li,<-hz]at a7;simpa using a7
  obtain⟨b3,kv,zq,ax,b2,a9⟩:=ae z ak;obtain⟨zp,rfl⟩:=a9.ptr;have a6:∀ j u,([.bool (ds.getD v false),.pointer zp]:List Value)[j]?=some u->w4.cell? (((adr GA (i*3)).add 1).add j)=some u:=λj u hu=>by
   have hj:j<2:=(List.getElem?_eq_some_iff.1 hu).1;rw[Qo,Qo,Nat.add_assoc];refine(af.ext o).cell ?_;rw[Ir (p:=z) (λp hp=>(ae p hp).1) (by rw[hz];exact gE li) om,ax,Nat.add_comm];exact hu
  rw[ay]at ac;refine ρd ?_;refine ρ ?_;refine ld ((ah.ext J).at (i:=2) rfl) ?_;refine ρ ?_;refine ix v (hK.ext o) hv ?_;refine ρ ?_;refine ld ((hK.ext o).cell ac) ?_;refine ρ ?_;refine ixq 3 i (af.ext o) li ?_;refine ρ ?_;refine lds (cs:=[.bool (ds.getD v false),.pointer zp]) a6 ?_;refine ρ ?_;refine stW a2 ?_;intro w5 G ar a4;have aa:=a4 w D (nL Z.size ad);refine ρ ?_;refine Zh G ⟨_,zp,rfl,?_,λ_=>rfl,aa⟩;rw[ap,<-am];exact a9
theorem Qzm(h:IxV w x f ds kf pf BB tot)(hv:v<f)(hy:RdR w A y)(hyc:y.length<=c)(hyl:y.length<=32)(hk:kf v<2^y.length):
  Ret Tryz.prog 91 [x,.int .i64 (v:Int),.slice A y.length c] w λu w'=>RowX w' (λk=>k<w.heap.size) u (pmR (bk (kf v) 32) y)/\Ext w w':=by
 obtain⟨DA,dc,BA,cb,KA,ck,PA,cp,tv,ap,ao,rfl,av,aw,hD,hB,hK,hP,ae,aq⟩:=id h.ex;obtain⟨TA,tc,rfl,_⟩:=id ae;have O:kf v<4294967296:=nM hk (Jxh hyl);have an:Jr (kf v)<=y.length:=Gk hk;have o:∀ {w'} (hx:Ext w w') j u,(Qr kf pf v)[j]?=some u->w'.cell? ((adr BA (v*3)).add j)=some u:=λhx j u hu=>by
  have hj:j<3:=by grind [Nat.lt_or_ge,List.getElem?_eq_none,Qr]
  rw[Qo];exact(hB.ext hx).cell ((Vh (sz:=3) (λ_ _=>rfl) hv hj).trans hu)
 refine Jz Tryz.func91 Tryz.ntmps91 rfl kr rfl ?_;refine ρ ?_;refine bx ?_;intro w1 b a6 hb aa;refine ρ ?_;refine ldW aa ?_;refine ρ ?_;refine cl (Qzl (h.ext a6) hv) ?_;rintro _ w2 ⟨rfl,a5⟩;have D:=a6.trans a5;have a3:=aa.ext a5;refine ρ ?_;refine ld (a3.at (i:=1) rfl) ?_;refine ρ ?_;refine ixq 3 v (hB.ext D) hv ?_;refine ρ ?_;refine ld (o D 1 _ rfl) ?_;refine ρ ?_;refine cl (Qxv (kf v) O w2) ?_;rintro _ ac ⟨rfl,e2⟩;rw[e2];clear e2 ac;refine ρ ?_;refine cf ?_ ?_
 .grind
 refine ρ ?_;refine bsl Kt ?_;intro w3 b3 a2 aj am;have Z:=D.trans a2;have a9:=a3.ext a2;refine ρ ?_;refine ld (a9.at (i:=1) rfl) ?_;refine ρ ?_;refine ixq 3 v (hB.ext Z) hv ?_;refine ρ ?_;refine ld (o Z 1 _ rfl) ?_;refine ρ ?_;refine cl (Qxv (kf v) O w3) ?_;rintro _ ab ⟨rfl,e3⟩;rw[e3];clear e3 ab;refine ρ ?_;refine Jt (fun (u:Nat) (vk:Value)=>[(1,.int .i64 (v:Int)),(2,.slice A y.length c),(3,.pointer (some ⟨b,0,none⟩)),(7,vk),(32,.int .i64 (Jr (kf v):Int)),(33,.int .i64 (u:Int))])
  (λu vk w'=>u<=Jr (kf v)/\Ext w2 w'/\w'.ownsRow w2.heap.size 118 3 vk (bk (kf v) u).length (Jh (pmR (bk (kf v) u) y))) (λu _=>Jr (kf v)-u) 0 (.slice (some ⟨b3,0,none⟩) 0 0) sB
  ⟨Nat.zero_le _,a2,am.own (n:=0) aj rfl (Nat.zero_le _)⟩ ?_
 rintro u vk w4 ⟨hu,C,J⟩;have G:=D.trans C;have a8:=a3.ext C;refine ρ ?_;refine ci (λh=>?_) (λh=>?_)
 .have lu:u<Jr (kf v):=by have:=oT h;omega
  clear h;refine ρ ?_;refine ld (a8.at (i:=1) rfl) ?_;refine ρ ?_;refine ixq 3 v (hB.ext G) hv ?_;refine ρ ?_;refine ld (o G 1 _ rfl) ?_;refine ρ ?_;refine Iw (s:=kf v) (v:=u) om ?_;refine ρ ?_;rw[Gd O];refine ci (λh=>?_) (λh=>?_)
  .have a4:=hy.ext G;refine ρ ?_;refine ixq 3 u a4 om ?_;refine ρ ?_;refine lds (cs:=(y.getD u V0).cells) (λj u' a7=>RdR.cell a4 om a7) ?_;refine ρ ?_;refine bsl (Jcz (y.getD u V0)) ?_;intro w5 b5 a1 b2 ak;obtain⟨A3,c3,rfl,ax,ag⟩:=Jy J;have ay:=Yd (kf v) u;refine ρ ?_;refine apb (m':=1) (news:=(y.getD u V0).cells) EV (Jk J a1) (ak.rd (n:=1) rfl) (V.one _) (by unfold maxLen;omega) om (C.trans a1).size ?_;intro v6 w6 ar af au;have e:bk (kf v) (u+1)=bk (kf v) u++[u]:=by rw[Gc,h];simp
   refine ρ ?_;refine Jf (u+1) v6 sO ⟨lu,Qg (C.trans a1) af (λg eg=>(ag g eg).1),?_⟩ om;grind [pmR,bk,kf,V0,List.length_append,List.length_singleton,rowC_app',Jh]
  have e:bk (kf v) (u+1)=bk (kf v) u:=by rw[Gc,h];simp
  refine ρ ?_;refine Jf (u+1) vk sO ⟨lu,C,by rw[e];exact J⟩ om
 have a7:u=Jr (kf v):=by have:=oF h;omega
 clear h;have e:bk (kf v) u=bk (kf v) 32:=by grind [Qyt,Jwg]
 rw[e]at J;obtain⟨A2,c2,rfl,ai,ah⟩:=Jy J;have b1:=Yd (kf v) 32;refine ρ ?_;refine Jj ⟨⟨A2,c2,by rw[Xj],by rw[Xj];exact ai,by rw[Xj];omega,by unfold RdR;rw[Xj];exact Rd.own J,λ_ ad e=>?_⟩,G⟩;have:=(ah ad.block (by rw[e];simp[Value.ownBlock])).1;have:=D.size;omega
end
end Go.Proofs.YtbcdghbonlifdaaGreatDoor
namespace Go.Wk
open Go.RowKit
open Go.Maps (Keyed)
variable {f:Lit->Option Value}{b k m r:Nat}{x:Operand}
def RgS(P:Program)(k:TypeId)(w:World)(b r n:Nat)(f:Lit->Option Value)(left:Lit->Bool)(cnt:Nat): Prop :=
 ∃ D:DV,w.ranges P k RT b r n D left cnt/\(∀ kl,Maps.has D kl=(f kl).isSome)/\∀ kl zd,D.atKey kl zd=(match f kl with|some v=>.held v|none=>zd)
section
variable {P:Program} {k:TypeId} {w w':World} {b r n cnt:Nat} {f:Lit->Option Value} {left:Lit->Bool}
theorem RgS.gr{N:Nat->Prop}(h:RgS P k w b r n f left cnt)(hg:GrN N w w')(hb:¬ N b)(hr:¬ N r): RgS P k w' b r n f left cnt:=by
 obtain⟨D,O,h2⟩:=h;have J:=O.owns.lt;have G:=O.lt;obtain⟨es,u,o,C,c0,e1,F,hs,Z,e2,rest⟩:=O;exact⟨D,⟨es,u,o,C,c0,(hg.block b J hb).trans e1,F,hs,Z,(hg.block r G hr).trans e2,rest⟩,h2⟩
theorem RgS.ext(h:RgS P k w b r n f left cnt)(hx:Ext w w'): RgS P k w' b r n f left cnt:=h.gr (N:=λ_=>False) (GrN.ext hx) (λe=>e) (λe=>e)
theorem RgS.lt(h:RgS P k w b r n f left cnt): r<w.heap.size:=by obtain⟨D,o,_⟩:=h;exact o.lt
end
section
variable {P:Program} {n:Nat} {al:AL} {w:World} {Q:Exit->Act->World->Prop} {ops:Array Oper} {rest:List Oper}
variable {d ty:Nat} {pos:String} {aft:Array Edge} {tt:TT}
theorem rngm[hT:Tab P tt]{t e:Nat}{kd:TK}(K:Keyed P k)(hM:MapS P k w b m f)(kk:∀ w1 r cnt,Ext w w1->w.heap.size<=r->RgS P k w1 b r m f (λkl=>(f kl).isSome) cnt->WL P n ops Q rest ((d,.pointer (some ⟨r,0,none⟩))::al) w1)(ht:tk tt t=some kd:=by rfl)(hk:kd.desc=.map k e:=by rfl)(hx:ev al x=some (.map (some b)):=by rfl)(hd:Nat.blt d n=true:=by rfl):
  WL P n ops Q (⟨some d,.range t x,ty,pos,aft,none⟩::rest) al w:=by
 obtain⟨D,Z,G,O⟩:=hM;obtain⟨w',o,C,u,_⟩:=Z.range K (Vr hT.ok ht hk rfl);have eh:Maps.has D=λkl=>(f kl).isSome:=funext G;rw[eh]at C;refine wop hd (λa J=>?_) (kk w' w.heap.size _ ⟨u.os,u.tape,u.output,u.size,λi hi=>u.block i hi (by simp)⟩ (nR _) ⟨D,C,G,O⟩);simp[execOp,J.ev hx,o]
theorem nxtm{cnt:Nat}{left:Lit->Bool}(K:Keyed P k)(h:RgS P k w b r m f left cnt)(kd:(∀ kl,left kl=false)->WL P n ops Q rest ((d,.tuple #[.bool false])::al) w)(km:∀(key v:Value) (kl:Lit) (w1:World) (cnt':Nat),keyOf P k key=some kl->left kl=true->f kl=some v->RgS P k w1 b r m f (λz=>left z && !z.sameKey kl) cnt'->cnt'<cnt->GrN (λi=>i=r) w w1 ->
  (Instr.entry (.pointer (some ⟨r,0,none⟩))).run P w1=.ok (.tuple #[key,v]) w1->WL P n ops Q rest ((d,.tuple #[.bool true,key,v])::al) w1)(hx:ev al x=some (.pointer (some ⟨r,0,none⟩)):=by rfl)(hd:Nat.blt d n=true:=by rfl): WL P n ops Q (⟨some d,.next x false,ty,pos,aft,none⟩::rest) al w:=by
 obtain⟨D,h1,h2,J⟩:=h;rcases h1.next K ty with⟨h0,Z,o⟩|⟨key,v,kl,y,w',cnt',hkey,hlk,hv,hat,o,hrg,hlt,hgr,hsz,hen⟩
 .exact wop hd (λa G=>by simp[execOp,G.ev hx,o]) (kd Z)
 have O:y=(.held v,[]):=by simpa [RT] using hv.symm
 have hf:f kl=some v:=by
  have C:=hat (.map []);rw[J,O]at C;cases hfk:f kl with
  | none=>rw[hfk]at C;cases C
  | some u=>rw[hfk]at C;injection C with C;rw[C]
 exact wop hd (λa G=>by simp[execOp,G.ev hx,o]) (km key v kl w' cnt' hkey hlk hf ⟨D,hrg,h2,J⟩ hlt (GrN.by hgr λi hi=>by injection hi with hi;exact hi.symm) hen)
theorem entm{key v:Value}(hen:(Instr.entry (.pointer (some ⟨r,0,none⟩))).run P w=.ok (.tuple #[key,v]) w)(kk:WL P n ops Q rest ((d,.tuple #[key,v])::al) w)(hx:ev al x=some (.pointer (some ⟨r,0,none⟩)):=by rfl)(hd:Nat.blt d n=true:=by rfl): WL P n ops Q (⟨some d,.entry x,ty,pos,aft,none⟩::rest) al w :=
 wop hd (λa o=>by simp[execOp,o.ev hx,hen]) kk
end
end Go.Wk
namespace Go.Proofs.YtbcdghbonlifdaaGreatDoor
namespace Pl
variable {m n v:Nat}{x y:Row}
section
variable {α:Type} {X:AX α}
def AX.Gp(X:AX α)(y:List α): Prop:=∀ v,v<y.length->y.getD v X.d0∈(X.E v (X.key v (y.take v))).map (·.1)
theorem AX.Gp.nil: X.Gp []:=λv h=>by simp at h
theorem AX.Gp.snoc{y:List α}(h:X.Gp y){a:α}(ha:a∈(X.E y.length (X.key y.length y)).map (·.1)): X.Gp (y++[a]):=λv o=>by
 rw[List.length_append,List.length_singleton]at o;by_cases e:v=y.length
 .grind
 rw[Jwr om,List.take_append_of_le_length om];exact h v om
theorem getD_take(d0:α){y:List α}(h:v<m): (y.take m).getD v d0=y.getD v d0:=by simp[List.getD,h]
theorem AX.Gp.pre{y:List α}(h:X.Gp y)(m:Nat): X.Gp (y.take m):=λv o=>by
 rw[List.length_take]at o;rw[getD_take X.d0 om,List.take_take,Nat.min_eq_left om];exact h v om
theorem Jss(d0:α){y:List α}(h:y.length=n+1): y=y.take n++[y.getD n d0]:=by
 have e:y.getD n d0=y[n]:=by grind
 rw[e,<-List.take_succ_eq_append_getElem,List.take_of_length_le om]
theorem Qgk{l:List (α×Nat)}{p:α×Nat}(h:p∈l): p.2<=tot l:=by
 induction l with
 | nil=>cases h
 | cons q l ih=>
  grind [tot,List.mem_cons.1]
theorem AX.Ok.pend_snoc(h:X.Ok){y:List α}(hm:y.length<X.F){a:α}(ha:a∈(X.E y.length (X.key y.length y)).map (·.1)): X.pend (y.length+1) (y++[a])<=X.pend y.length y:=by
 obtain⟨p,hp,rfl⟩:=List.mem_map.1 ha;rw[h.pend_next hm hp,h.pend_split hm];exact nO _ (Qgk hp)
theorem AX.Ok.pend_le(h:X.Ok): ∀(n:Nat) (y:List α),y.length=n->n<=X.F->X.Gp y->X.pend n y<=X.pend 0 []
 | 0,y,e,_,_=>by grind
 | n+1,y,e,hF,hg=>by
  have h1:=Jss X.d0 e;have hl:(y.take n).length=n:=by grind
  have h2:=h.pend_le n (y.take n) hl om (hg.pre n);have h3:=h.pend_snoc (y:=y.take n) (a:=y.getD n X.d0) om (by rw[hl];exact hg n om);grind
theorem AX.Ok.others_le(h:X.Ok){y:List α}(hm:y.length<X.F)(hp:0<X.pend y.length y): 0<X.others y.length y/\X.others y.length y<=X.pend y.length y:=by
 rw[h.pend_split hm]at hp ⊢;have u:=Nat.pos_of_mul_pos_right hp;have o:=Nat.pos_of_mul_pos_left hp;refine⟨by grind,?_⟩;have:0<X.T y.length y:=by grind
 calc X.others y.length y=1*X.others y.length y:=(Nat.one_mul _).symm
  _<=_:=nO _ this
def AX.prodS(X:AX α)(S:Nat->Bool)(y:List α): Nat:=Jd X.F λc=>if S c=true then X.T c y else 1
end
theorem Lt.filter{ds:List Bool}{l:List Row}(h:Lt ds l)(q:Row->Bool): Lt ds (l.filter q):=h.sublist List.filter_sublist
section
variable {X:IX} {ds:List Bool}
theorem AX.gp_iff(hx:x∈X.ext n y)(hm:m<=y.length+n)(hg:X.Gp y): X.Gp (x.take m):=by
 obtain⟨D,C,u⟩:=(AX.ext_mem n y x).1 hx;intro v o;rw[List.length_take]at o;rw[getD_take X.d0 om,List.take_take,Nat.min_eq_left om];rcases Nat.lt_or_ge v y.length with h4|h4
 .have:=hg v h4;grind
 repeat grind
theorem AX.ext_gp(hx:x∈X.ext X.F [])(m:Nat): X.Gp (x.take m):=by
 have o:=((AX.ext_mem X.F [] x).1 hx).1;rw[List.length_nil,Nat.zero_add]at o;rcases Nat.lt_or_ge X.F m with h|h
 .rw[List.take_of_length_le om];have:=AX.gp_iff (m:=X.F) hx (by simp) AX.Gp.nil;grind
 repeat grind [AX.gp_iff,AX.Gp.nil]
theorem AX.Srt.within(h:X.Srt ds)(hy:y.length<=X.F)(hg:X.Gp y): (X.ext X.F []).filter (λx=>decide (x.take y.length=y))=X.ext (X.F-y.length) y:=by
 refine Iy ((h.ext X.F [] (by simp)).filter _) (h.ext _ y om) λx=>?_;rw[List.mem_filter,AX.ext_mem,AX.ext_mem,decide_eq_true_eq];simp only[List.length_nil,Nat.zero_add,List.take_zero,true_and,Nat.zero_le,true_implies];constructor
 .grind
 rintro⟨D,o,C⟩;refine⟨⟨om,λv u=>?_⟩,o⟩;rcases Nat.lt_or_ge v y.length with h4|h4
 .have:=hg v h4;grind
 repeat grind
theorem AX.within_none(hg:¬ X.Gp y): (X.ext X.F []).filter (λx=>decide (x.take y.length=y))=[]:=by grind [List.filter_eq_nil_iff,AX.ext_gp]
end
end Pl
open Pl Go.Wk
variable {c m:Nat}{y:Row}
def Xy(f:Nat)(kf:Nat->Nat)(pf:Nat->Int)(BB:Nat->List BkT): IX:=⟨V0,f,λv=>bk (kf v) 32,pf,λv k=>entK (BB v) k⟩
structure IxP(f:Nat)(ds:List Bool)(kf:Nat->Nat)(pf:Nat->Int)(BB:Nat->List BkT)(tot:Nat)(L:List Row): Prop where
 len:tot=L.length
 nil:tot=0->∀ v,BB v=[]
 ok:tot≠0->(Xy f kf pf BB).Ok
 srt:tot≠0->(Xy f kf pf BB).Srt ds
 ans:tot≠0->L=(Xy f kf pf BB).ext f []
 big:∀ v k,(trK (BB v) k).sum<=4294967296^20
 siz:∀ v k,(trK (BB v) k).sz<=65536
 fit:∀ v b,b∈BB v->∀ p∈b.2.toL,Xb p.1/\p.1.bytes.length<=24
 f32:f<=32
 kv:∀ v,v<f->kf v<2^v
section
variable {f:Nat} {ds:List Bool} {kf:Nat->Nat} {pf:Nat->Int} {BB:Nat->List BkT} {tot:Nat} {L:List Row}
theorem Qbj(c:Nat)(y:Row): (Xy f kf pf BB).T c y=(trK (BB c) (pmR (bk (kf c) 32) y)).sum:=by
 rw[Tr.sum_eq,Jfg];rfl
theorem Jdh(c:Nat)(k:Row): (Xy f kf pf BB).E c k=(trK (BB c) k).toL:=by rw[Jfg];rfl
theorem IxP.one(h:IxP f ds kf pf BB tot L)(v:Nat)(k:Row)(p:V×Nat)(hp:p∈(trK (BB v) k).toL): Xb p.1/\p.1.bytes.length<=24:=by
 unfold trK at hp;cases hf:(BB v).find? λb=>decide (b.1=k) with
 | none=>rw[hf]at hp;cases hp
 | some b=>rw[hf]at hp;exact h.fit v b (List.mem_of_find?_eq_some hf) p hp
theorem IxP.gp(h:IxP f ds kf pf BB tot L)(hg:(Xy f kf pf BB).Gp y): ∀ u∈y,Xb u/\u.bytes.length<=24:=λu o=>by
 obtain⟨i,hi,rfl⟩:=List.getElem_of_mem o;have:=hg i hi;rw[Jdh]at this;obtain⟨p,hp,e⟩:=List.mem_map.1 this;have C:y.getD i (Xy f kf pf BB).d0=y[i]:=by simp[List.getD,hi]
 rw[C]at e;rw[<-e];exact h.one _ _ p hp
theorem fit0: Xb V0/\V0.bytes.length<=24:=⟨⟨⟨by decide,by decide⟩,⟨by decide,by decide⟩⟩,by decide⟩
theorem IxP.fitK(h:IxP f ds kf pf BB tot L)(hg:(Xy f kf pf BB).Gp y)(c:Nat): FitR (pmR (bk (kf c) 32) y):=by
 refine⟨by grind [Xj,Yd],λv o=>?_⟩;obtain⟨i,_,rfl⟩:=List.mem_map.1 o;simp only[List.getD];cases hi:y[i]? with
 | none=>exact fit0
 | some u=>exact h.gp hg u (List.mem_of_getElem? hi)
theorem IxP.pend0(h:IxP f ds kf pf BB tot L)(h0:tot≠0): (Xy f kf pf BB).pend 0 []=tot:=by
 have:=(h.ok h0).ext_len f [] (by simp;rfl);rw[<-h.ans h0,<-h.len]at this;exact this.symm
theorem IxP.keyb(h:IxP f ds kf pf BB tot L)(h0:tot≠0)(hc:c<f)(hp:pf c<(m:Int)): kf c<2^m:=by
 refine Nat.lt_pow_two_of_testBit _ λi hi=>?_;cases hb:(kf c).testBit i with
 | false=>rfl
 | true=>
  have o:i<32:=by
   rcases Nat.lt_or_ge i 32 with h'|h'
   .exact h'
   rw[Nat.testBit_lt_two_pow (nM (h.kv c hc) (Nat.pow_le_pow_right (n:=2) (by decide) (show c<=i by have:=h.f32;omega)))]at hb;cases hb
  have:(i:Int)<=pf c:=(h.ok h0).kl c hc i (bk_mem.2 ⟨o,hb⟩);omega
theorem IxP.par(h:IxP f ds kf pf BB tot L)(h0:tot≠0)(hc:c<f): -1<=pf c/\pf c<(c:Int):=(h.ok h0).pl c hc
end
end Go.Proofs.YtbcdghbonlifdaaGreatDoor
namespace Go.Wk
open Go.RowKit
open Go.Maps (Keyed)
variable {key v:Value}
section
variable {P:Program} {n:Nat} {al:AL} {w:World} {Q:Exit->Act->World->Prop} {ops:Array Oper} {rest:List Oper} {d ty:Nat} {op:Op} {pos:String} {aft:Array Edge} {tt:TT}
theorem wopv{w':World}(h:∀ a,Fr n al a->(execOp a.eval ⟨none,op,ty,pos,aft,none⟩).run P w=.ok (.value v) w')(k:WL P n ops Q rest al w'):
  WL P n ops Q (⟨none,op,ty,pos,aft,none⟩::rest) al w:=λa o=>
 wpList_plain rfl λK u=>by
  unfold Oper.wp;rw[h a o,Oper.upon_value];exact u _ _ (k _ o)
theorem mdn[hT:Tab P tt]{t k e b m:Nat}{kd:TK}{f:Lit->Option Value}{x y:Operand}{kl:Lit}(K:Keyed P k)(hM:MapS P k w b m f)(hkey:keyOf P k key=some kl)(kk:∀ w1,MapS P k w1 b m (upL f kl none)->w.grownBy w1 (some b)->WL P n ops Q rest al w1)(ht:tk tt t=some kd:=by rfl)(hk:kd.desc=.map k e:=by rfl)(hx:ev al x=some (.map (some b)):=by rfl)(hy:ev al y=some key:=by rfl):
  WL P n ops Q (⟨none,.call { callee:=.builtin .delete,args:=#[x,y],argTypes:=#[t,k] },ty,pos,aft,none⟩::rest) al w:=by
 obtain⟨w',u,D,C⟩:=hM.drop K (Vr hT.ok ht hk rfl) hkey ty;exact wopv (v:=.tuple #[]) (w':=w') (λa o=>by simp[execOp,resolve,invoke,builtin,o.ev hx,o.ev hy,u]) (kk w' D C)
end
end Go.Wk
namespace Go.Proofs.YtbcdghbonlifdaaGreatDoor
open Go.RowKit Pl Go.Wk
attribute [local irreducible] WC WL QX WD WDB WP WN WG
variable {M' c c' f:Nat}{BA p:Option Addr}
theorem KI: Maps.Keyed Tryz.prog 3:=Maps.int_keyed Tryz.underlying3
theorem keyI(hc:c<=1000000): keyOf Tryz.prog 3 (.int .i64 (c:Int))=some (.int .i64 (c:Int)):=Maps.keyOf_int_mk Tryz.underlying3 (by
 have u:IntKind.i64.min = -9223372036854775808:=by decide
 have o:IntKind.i64.max=9223372036854775807:=by decide
 simp only[Lit.wf,Bool.and_eq_true,decide_eq_true_eq,u,o];omega)
theorem Qcn: Qm Tryz.prog 91=some (.agg #[.bool false,.pointer none]):=Gg
structure SeK where
 B0: Nat
 w0:World
 w1:World
 mb:Nat
 sb:Nat
 x0:Value
 x1:Value
 x2:Value
 x3:Value
 x4:Value
 BA:Option Addr
 bc:Nat
 f:Nat
 ds:List Bool
 kf:Nat->Nat
 pf:Nat->Int
 BB:Nat->List BkT
 tot:Nat
 L:List Row
def SeK.x(K:SeK): Value:=.agg #[K.x0,K.x1,K.x2,K.x3,K.x4]
def SeK.X(K:SeK): IX:=Xy K.f K.kf K.pf K.BB
def SeK.t(K:SeK)(c:Nat)(y:Row): Tr:=trK (K.BB c) (pmR (bk (K.kf c) 32) y)
theorem SeK.T(K:SeK)(c:Nat)(y:Row): K.X.T c y=(K.t c y).sum:=Qbj c y
theorem SeK.E(K:SeK)(c:Nat)(y:Row): K.X.E c (K.X.key c y)=(K.t c y).toL:=Jdh c _
def PdF(K:SeK)(y:Row)(S:Nat->Bool)(fm:Lit->Option Value): Prop :=
 (∀ c,c<K.f->S c=true->∃ d p,fm (.int .i64 (c:Int))=some (.agg #[.bool d,.pointer p])/\TrV (λ_=>False) K.w0 (K.t c y) (.pointer p)/\(K.t c y≠.nil->d=K.ds.getD c false)) /\
 ∀ kl,fm kl≠none->∃ c:Nat,c<K.f/\S c=true/\kl=.int .i64 (c:Int)
structure SeF(K:SeK): Prop where
 tb:TB K.B0 K.w0
 ix:IxV K.w0 K.x K.f K.ds K.kf K.pf K.BB K.tot
 ip:IxP K.f K.ds K.kf K.pf K.BB K.tot K.L
 ne:K.tot≠0
 e01:Ext K.w0 K.w1
 m1:K.w0.heap.size<=K.mb
 m2:K.mb<K.w1.heap.size
 s1:K.w1.heap.size<=K.sb
 bcl:K.f<=K.bc
 bg:Off (λk=>k=K.mb) K.w1 (λu=>Rd u 3 K.BA K.f (Qk K.f (Qr K.kf K.pf)))
 one:∀ u∈[K.x0,K.x1,K.x2,K.x3,K.x4],u.oneCell'=true
def sCs(K:SeK)(yv:Value)(st:Nat): List Value:=[K.x0,K.x1,K.x2,K.x3,K.x4,.slice K.BA K.f K.bc,yv,.map (some K.mb),.int .i64 (st:Int)]
structure SeM(K:SeK)(w:World)(y:Row)(S:Nat->Bool)(st M:Nat)(yv:Value)(m:Nat)(fm:Lit->Option Value): Prop where
 gr:GrN (λk=>k=K.mb) K.w1 w
 blk:Blk w K.sb 207 (sCs K yv st)
 row:w.ownsRow K.w1.heap.size 118 3 yv y.length (Jh y)
 map:MapS Tryz.prog 3 w K.mb m fm
 mle:m<=M
 pd:PdF K y S fm
def LoB(K:SeK)(B:Nat)(yv:Value): Prop:=K.sb<B/\∀ g,yv.ownBlock=some g->g<B
def SeV(K:SeK)(w:World)(y:Row)(S:Nat->Bool)(st M B:Nat): Prop:=∃ yv m fm,SeM K w y S st M yv m fm/\LoB K B yv
section
variable {K:SeK} {w w':World} {y:Row} {S:Nat->Bool} {st M m B:Nat} {yv:Value} {fm:Lit->Option Value}
theorem SeF.nsm(hF:SeF K): ¬ K.sb=K.mb:=λe=>by have:=hF.m2;have:=hF.s1;omega
theorem SeF.ext(hF:SeF K)(h:GrN (λk=>k=K.mb) K.w1 w): Ext K.w0 w:=h.old hF.e01 λk o=>by rw[o];exact hF.m1
theorem SeM.ext'(h:SeM K w y S st M yv m fm)(hx:Ext w w'): SeM K w' y S st M yv m fm :=
 ⟨h.gr.trans (GrN.ext hx),h.blk.ext hx,Jk h.row hx,h.map.ext hx,h.mle,h.pd⟩
theorem SeM.x5(h:SeM K w y S st M yv m fm)(j:Nat)(u:Value)(hu:[K.x0,K.x1,K.x2,K.x3,K.x4][j]?=some u): w.cell? ((⟨K.sb,0,none⟩:Addr).add j)=some u :=
 Blk.pre (cs:=[K.x0,K.x1,K.x2,K.x3,K.x4]) (ds:=[.slice K.BA K.f K.bc,yv,.map (some K.mb),.int .i64 (st:Int)]) h.blk j u hu
theorem SeV.ext(h:SeV K w y S st M B)(hx:Ext w w'): SeV K w' y S st M B:=by
 obtain⟨yv,m,fm,h,o⟩:=h;exact⟨yv,m,fm,h.ext' hx,o⟩
theorem SeV.same{S':Nat->Bool}(h:SeV K w y S st M B)(e:∀ c,c<K.f->S c=S' c): SeV K w y S' st M B:=by
 obtain⟨yv,m,fm,h,D⟩:=h;refine⟨yv,m,fm,⟨h.gr,h.blk,h.row,h.map,h.mle,λc o hs=>h.pd.1 c o ((e c o).trans hs),λu C=>?_⟩,D⟩;obtain⟨c,O,J,G⟩:=h.pd.2 u C;grind
theorem SeV.more(h:SeV K w y S st M B)(hM:M<=M'): SeV K w y S st M' B:=by
 obtain⟨yv,m,fm,h,o⟩:=h;exact⟨yv,m,fm,⟨h.gr,h.blk,h.row,h.map,Nat.le_trans h.mle hM,h.pd⟩,o⟩
theorem Jld(hc:c<=1000000): WideAt.IsKeyLit (.int .i64 (c:Int)):=KI.key (keyI hc)
theorem Jhs(h:Lit.int .i64 (c:Int)=.int .i64 (c':Int)): c=c':=by grind
theorem PdF.put(h:PdF K y S fm)(hf:K.f<=32)(hc:c<K.f){d:Bool}(ht:TrV (λ_=>False) K.w0 (K.t c y) (.pointer p))(hd:K.t c y≠.nil->d=K.ds.getD c false):
  PdF K y (λj=>S j || decide (j=c)) (upL fm (.int .i64 (c:Int)) (some (.agg #[.bool d,.pointer p]))):=by
 constructor
 .intro j C hs;by_cases e:j=c
  .subst e;rw[Kq (Jld om)];exact⟨d,p,rfl,ht,hd⟩
  rw[Uy λD=>e (Jhs D)];exact h.1 j C (by simpa [e] using hs)
 intro o u;by_cases e:o=.int .i64 (c:Int)
 .grind
 rw[Uy e]at u;obtain⟨j,O,J,G⟩:=h.2 o u;grind
theorem PdF.drop(h:PdF K y S fm)(hf:K.f<=32)(hc:c<K.f): PdF K y (λj=>S j && !decide (j=c)) (upL fm (.int .i64 (c:Int)) none):=by
 constructor
 .intro j C hs;simp only[Bool.and_eq_true,Bool.not_eq_true',decide_eq_false_iff_not]at hs;rw[Uy λD=>hs.2 (Jhs D)];exact h.1 j C hs.1
 intro o u;by_cases e:o=.int .i64 (c:Int)
 .grind [Kq,Jld]
 rw[Uy e]at u;obtain⟨j,O,J,G⟩:=h.2 o u;grind
theorem SeK.t_app(hF:SeF K)(hc:c<K.f)(hp:K.pf c<(y.length:Int))(z:Row): K.t c (y++z)=K.t c y:=by
 have:=(hF.ip.ok hF.ne).key_pre (y:=y) (z:=z) hc hp;unfold SeK.t;exact congrArg (trK (K.BB c)) this
theorem PdF.app(h:PdF K y S fm)(hF:SeF K)(hS:∀ c,c<K.f->S c=true->K.pf c<(y.length:Int))(z:Row): PdF K (y++z) S fm:=by
 refine⟨λc o hs=>?_,h.2⟩;rw[SeK.t_app hF o (hS c o hs)];exact h.1 c o hs
theorem Xyl{kf:Nat->Nat}{pf:Nat->Int}(hR:Rd w 3 BA f (Qk f (Qr kf pf)))(hc:c<f): ∀ j u,(Qr kf pf c)[j]?=some u->w.cell? ((adr BA (c*3)).add j)=some u:=λj u o=>by
 have C:j<3:=by grind [Nat.lt_or_ge,List.getElem?_eq_none,Qr]
 rw[Qo];exact hR.cell ((Vh (sz:=3) (λ_ _=>rfl) hc C).trans o)
end
open Go.RowKit Pl Go.Wk
attribute [local irreducible] WH
variable {L:List Row}{c f k m:Nat}{pf:Nat->Int}{BB:Nat->List BkT}{y z:Row}{w w0:World}
def pS(pf:Nat->Int)(m q:Nat)(c:Nat): Bool:=decide (m<=c) && decide (pf c<(q:Int))
theorem Qnm(K:SeK)(m:Nat)(y:Row): K.X.prodS (pS K.pf m m) y=K.X.pend m y:=Uu λc _=>by
 simp only[pS,Bool.and_eq_true,decide_eq_true_eq];rfl
theorem Qnn(K:SeK)(m:Nat)(y:Row): K.X.prodS (pS K.pf (m+1) m) y=K.X.others m y:=Uu λc _=>by
 simp only[pS,Bool.and_eq_true,decide_eq_true_eq];rfl
theorem Qpp: (pS pf m m c && !decide (c=m))=pS pf (m+1) m c:=by grind [pS]
theorem Qpq(hp:pf c<(c:Int)): (pS pf (m+1) m c || decide (pf c=(m:Int)))=pS pf (m+1) (m+1) c:=by
 unfold pS;grind
def hmB(bs:List BkT): Nat:=bs.foldl (λm b=>max m b.2.ht) 0
theorem foldl_max{bs:List BkT}: ∀ {m:Nat},m<=bs.foldl (λm b=>max m b.2.ht) m/\∀ b∈bs,b.2.ht<=bs.foldl (λm b=>max m b.2.ht) m:=by
 induction bs with
 | nil=>intro m;exact⟨nR _,λb o=>by cases o⟩
 | cons a bs ih=>
  grind
theorem Qgg(bs:List BkT)(k:Row): (trK bs k).ht<=hmB bs:=by
 unfold trK;cases hf:bs.find? λb=>decide (b.1=k) with
 | none=>exact Nat.zero_le _
 | some b=>exact foldl_max.2 b (List.mem_of_find?_eq_some hf)
def wiL(L:List Row)(y:Row): List Row:=L.filter λx=>decide (x.take y.length=y)
section
variable {f:Nat} {ds:List Bool} {kf:Nat->Nat} {pf:Nat->Int} {BB:Nat->List BkT} {tot:Nat} {L:List Row}
end
section
variable {K:SeK} {w:World} {y:Row} {S:Nat->Bool} {st M B:Nat}
theorem SeV.steps(hF:SeF K)(h:SeV K w y S st M B)(k:Nat): SeV K (w.setCell ((⟨K.sb,0,none⟩:Addr).add 8) (.int .i64 ((st+k:Nat):Int))) y S (st+k) M B/\GrN (λk=>k=K.sb) w (w.setCell ((⟨K.sb,0,none⟩:Addr).add 8) (.int .i64 ((st+k:Nat):Int))):=by
 obtain⟨yv,m,fm,H,C⟩:=h;have o:GrN (λk=>k=K.sb) w (w.setCell ((⟨K.sb,0,none⟩:Addr).add 8) (.int .i64 ((st+k:Nat):Int))):=GrN.set _ rfl;refine⟨⟨yv,m,fm,⟨?_,H.blk.set 8 _,Js H.row o λg u e=>?_,H.map.gr o λe=>hF.nsm e.symm,H.mle,H.pd⟩,C⟩,o⟩
 .exact((H.gr.mono λk _ h=>(.inl h:k=K.mb∨k=K.sb)).trans (o.mono λk _ h=>.inr h)).mono λk D h=>h.elim id λe=>by have:=hF.s1;omega
 rw[e]at u;exact(Blk.ne_own H.blk H.row rfl) u.symm
theorem SeF.pnb(hF:SeF K)(m:Nat)(z:Row): Nb (K.X.pend m z):=by
 refine Nb.pow (k:=K.f) (Jxg (Nat.pow_pos (by decide)) λc _=>?_) hF.ip.f32;split
 .rw[K.T];exact hF.ip.big _ _
 repeat grind
theorem SeF.has(hF:SeF K)(hc:c<K.f){d:Bool}(hd:K.t c z≠.nil->d=K.ds.getD c false)(v:V):
  Tr.hasT d v (K.t c z)=true↔v∈(K.X.E c (K.X.key c z)).map (·.1):=by
 rw[K.E];by_cases h:K.t c z=.nil
 .rw[h];simp[Tr.hasT,Tr.toL]
 have hs:Uw d (K.t c z).toL:=by
  rw[hd h,<-K.E];exact(hF.ip.srt hF.ne).srt c hc _
 exact(Tr.befT_eq hs).2
end
def AcR(f:Nat)(BB:Nat->List BkT)(L:List Row)(y:Row)(k:Nat)(u:Value)(w:World): Prop:=match(wiL L y)[k]? with
 | some r=>∃ A c,∃ st:Nat,u=.tuple #[.slice A r.length c,.int .i64 (st:Int),.int .i64 0]/\RdR w A r/\r.length<=c/\r.length=f/\st<=Qy f λv=>hmB (BB v)
 | none=>u=.tuple #[.slice none 0 0,.int .i64 0,.int .i64 3]
theorem AcR.none(h:(wiL L y)[k]?=none): AcR f BB L y k (.tuple #[.slice none 0 0,.int .i64 0,.int .i64 3]) w:=by
 unfold AcR;rw[h]
def AcRF(w0:World)(f:Nat)(BB:Nat->List BkT)(L:List Row)(y:Row)(k:Nat)(u:Value)(w:World): Prop:=match(wiL L y)[k]? with
 | some r=>∃ A c,∃ st:Nat,u=.tuple #[.slice A r.length c,.int .i64 (st:Int),.int .i64 0]/\RdR w A r/\r.length<=c/\r.length=f/\(st<=Qy f λv=>hmB (BB v))/\(r≠[]->∀ ad,A=some ad->w0.heap.size<=ad.block)
 | none=>u=.tuple #[.slice none 0 0,.int .i64 0,.int .i64 3]
theorem AcRF.none(h:(wiL L y)[k]?=none): AcRF w0 f BB L y k (.tuple #[.slice none 0 0,.int .i64 0,.int .i64 3]) w:=by
 unfold AcRF;rw[h]
section
variable {f:Nat} {ds:List Bool} {kf:Nat->Nat} {pf:Nat->Int} {BB:Nat->List BkT} {tot:Nat} {L:List Row}
theorem IxP.wi_none(ip:IxP f ds kf pf BB tot L)(ne:tot≠0)(hg:¬ (Xy f kf pf BB).Gp y): wiL L y=[]:=by
 unfold wiL;rw[ip.ans ne];exact AX.within_none hg
theorem IxP.wi_some(ip:IxP f ds kf pf BB tot L)(ne:tot≠0)(hy:y.length<=f)(hg:(Xy f kf pf BB).Gp y): wiL L y=(Xy f kf pf BB).ext (f-y.length) y:=by
 unfold wiL;rw[ip.ans ne];exact(ip.srt ne).within hy hg
theorem IxP.nbP(ip:IxP f ds kf pf BB tot L)(m:Nat)(z:Row): Nb ((Xy f kf pf BB).pend m z):=by
 refine Nb.pow (k:=f) (Jxg (Nat.pow_pos (by decide)) λc _=>?_) ip.f32;split
 .rw[Qbj];exact ip.big _ _
 repeat grind
theorem IxP.nbT(ip:IxP f ds kf pf BB tot L): Nb tot:=by
 by_cases h:tot=0
 .rw[h];exact(ip.nbP 0 []).le (Nat.zero_le _)
 rw[<-ip.pend0 h];exact ip.nbP 0 []
end
open Go.RowKit Pl Go.Wk
structure IxA(w:World)(x:Value)(f:Nat)(ds:List Bool)(kf:Nat->Nat)(pf:Nat->Int)(BB:Nat->List BkT)(tot:Nat)(L:List Row): Prop where
 tb:∃ B0,TB B0 w
 ix:IxV w x f ds kf pf BB tot
 ip:IxP f ds kf pf BB tot L
 ho:tot≠0->∀ z,(Xy f kf pf BB).Gp z->z.length<f->0<(Xy f kf pf BB).pend z.length z->(Xy f kf pf BB).others z.length z<4294967296
 hb:∀ v b,b∈BB v->b.2.ht<=65536
section
variable {w:World} {x:Value} {f:Nat} {ds:List Bool} {kf:Nat->Nat} {pf:Nat->Int} {BB:Nat->List BkT} {tot:Nat} {L:List Row}
theorem IxA.ext(h:IxA w x f ds kf pf BB tot L){w':World}(hx:Ext w w'): IxA w' x f ds kf pf BB tot L:=by
 obtain⟨o,ht⟩:=h.tb;exact⟨⟨o,ht.ext hx⟩,h.ix.ext hx,h.ip,h.ho,h.hb⟩
end
end Go.Proofs.YtbcdghbonlifdaaGreatDoor
namespace Go.Proofs.YtbcdghbonlifdaaGreatDoor
open Go.RowKit Pl Go.Wk
attribute [local irreducible] WC WL QX WD WDB WP
variable {a b:Row}{va vb vd:Value}{w:World}
theorem Qyd: ∀(x y:List UInt8),(Lib.compareBytes x y<0)↔Op.bytesLess x y=true
 | [],[]=>by simp[Lib.compareBytes,Op.bytesLess]
 | [],_::_=>by simp[Lib.compareBytes,Op.bytesLess]
 | _::_,[]=>by simp[Lib.compareBytes,Op.bytesLess]
 | a::x,b::y=>by
  have ih:=Qyd x y;simp only[Lib.compareBytes,Op.bytesLess];grind
def eqv(a b:V): Bool:=(a.kind == b.kind) && (a.num == b.num) && (a.str.toList == b.str.toList)
theorem V.bytes_eq(a:V): a.str.toList=a.bytes:=by rw[V.bytes,ByteArray.toList_eq]
theorem Qwb(a b:V): eqv a b=true↔a=b:=by
 unfold eqv;simp only[Bool.and_eq_true,beq_iff_eq];grind [V.ext,V.bytes_eq]
theorem eqV(a b:V)(w:World): (binOp .eql 118 a.val b.val).run Tryz.prog w=.ok (.bool (eqv a b)) w:=by
 rw[V.val,V.val,run_eql_struct,run_equalIn_agg w 9999 118 _ _ kr kr];have e:∃ f1 u o:Field,(Tryz.prog.fieldsOf 118).toList=[f1,u,o]/\(f1.name≠"_"/\f1.type=3/\f1.offset=0)/\(u.name≠"_"/\u.type=2/\u.offset=1)/\(o.name≠"_"/\o.type=9/\o.offset=2) :=
  ⟨_,_,_,rfl,⟨by decide,rfl,rfl⟩,⟨by decide,rfl,rfl⟩,⟨by decide,rfl,rfl⟩⟩
 obtain⟨f1,u,o,h0,⟨n1,Z,o1⟩,⟨n2,O,o2⟩,⟨n3,J,o3⟩⟩:=e;rw[h0];simp only[Op.eqFields,if_pos n1,if_pos n2,if_pos n3,Z,O,J,o1,o2,o3,Sem.run_bind];have G:∀ v:V,(part 3 #[.int .i64 v.kind,.int .i64 v.num,.string v.str] 0).run Tryz.prog w=.ok (.int .i64 v.kind) w:=λv=>run_part_plain w kr rfl;have D:∀ v:V,(part 2 #[.int .i64 v.kind,.int .i64 v.num,.string v.str] 1).run Tryz.prog w=.ok (.int .i64 v.num) w:=λv=>run_part_plain w kr rfl;have C:∀ v:V,(part 9 #[.int .i64 v.kind,.int .i64 v.num,.string v.str] 2).run Tryz.prog w=.ok (.string v.str) w:=λv=>run_part_plain w kr rfl;rw[G a];simp only[Result.andThen_ok];rw[G b];simp only[Result.andThen_ok];rw[run_equalIn_int w 9998 3 .i64 .i64 _ _ kr];simp only[Result.andThen_ok];unfold eqv;cases h1:(a.kind == b.kind) with
 | false=>simp
 | true=>
  simp only[Bool.not_true,Bool.false_eq_true,if_false,Bool.true_and,Sem.run_bind];rw[D a];simp only[Result.andThen_ok];rw[D b];simp only[Result.andThen_ok];rw[run_equalIn_int w 9998 2 .i64 .i64 _ _ kr];simp only[Result.andThen_ok];cases h2:(a.num == b.num) with
  | false=>simp
  | true=>
   simp only[Bool.not_true,Bool.false_eq_true,if_false,Bool.true_and,Sem.run_bind];rw[C a];simp only[Result.andThen_ok];rw[C b];simp only[Result.andThen_ok];rw[run_equalIn_string w 9998 9 _ _ kr];simp only[Result.andThen_ok];cases h3:(a.str.toList == b.str.toList)<;>simp
theorem Jtd(a b:Int): sgn a b<0↔a<b:=by grind [sgn]
def Ih(a b:V): Bool:=decide (a.kind<b.kind) || ((a.kind == b.kind) && (decide (a.num<b.num) || ((a.num == b.num) && Op.bytesLess a.str.toList b.str.toList)))
theorem Qxr(a b:V): Ih a b=true↔cmpV a b<0:=by
 unfold Ih cmpV;by_cases h:a.kind=b.kind
 .rw[if_neg (not_not_intro h)];by_cases h2:a.num=b.num
  .rw[if_neg (not_not_intro h2),Qyd,<-V.bytes_eq,<-V.bytes_eq];simp[h,h2]
  rw[if_pos h2,Jtd];grind
 rw[if_pos h,Jtd];grind
theorem Qmk(a b:V)(w:World): Ret Tryz.prog 97 [a.val,b.val] w λr w'=>r=.int .i64 (cmpV a b)/\Ext w w':=by
 refine Jz Tryz.func97 Tryz.ntmps97 rfl kr rfl ?_;refine ρ ?_;refine bx ?_;intro w1 b1 G a3 o;refine ρ ?_;refine bx ?_;intro w2 b2 D a2 C;have o:=o.ext D;have J:=G.trans D;refine ρ ?_;refine lds (cs:=a.cells) (λj u O=>o.at O) ?_;refine ρ ?_;refine lds (cs:=b.cells) (λj u O=>C.at O) ?_;refine ρ ?_;refine weqs kr (eqV a b w2) ?_;refine ρ ?_;refine ci (λh=>?_) (λh=>?_)
 .refine ρ ?_;have:=(Qwb a b).1 h;subst this;exact Jj ⟨by rw[Zr],J⟩
 have a1:cmpV a b≠0:=λe=>by
  have:=(Qwb a b).2 (cmp_V.zero _ _ e);rw[h]at this;cases this
 refine ρ ?_;refine Vn (fun (t:Bool)=>[(40,.bool t)]) (λt Z=>t=Ih a b/\Z=w2) ?_ ?_
 .refine ld (o.at (i:=0) rfl) ?_;refine ρ ?_;refine ld (C.at (i:=0) rfl) ?_;refine ρ ?_;refine ki 13 (λh1=>?_) (λh1=>?_)
  .refine ρ ?_;exact Jb true sB ⟨by unfold Ih;rw[h1];rfl,rfl⟩
  refine ρ ?_;refine ld (o.at (i:=0) rfl) ?_;refine ρ ?_;refine ld (C.at (i:=0) rfl) ?_;refine ρ ?_;refine ki 19 (λh2=>?_) (λh2=>?_)
  .refine ρ ?_;refine ld (o.at (i:=1) rfl) ?_;refine ρ ?_;refine ld (C.at (i:=1) rfl) ?_;refine ρ ?_;refine ki 25 (λh3=>?_) (λh3=>?_)
   .refine ρ ?_;exact Jb true sB ⟨by grind [Ih],rfl⟩
   refine ρ ?_;refine ld (o.at (i:=1) rfl) ?_;refine ρ ?_;refine ld (C.at (i:=1) rfl) ?_;refine ρ ?_;refine ki 31 (λh4=>?_) (λh4=>?_)
   .refine ρ ?_;refine ld (o.at (i:=2) rfl) ?_;refine ρ ?_;refine ld (C.at (i:=2) rfl) ?_;refine ρ ?_;exact Jb _ sB ⟨by grind [Ih],rfl⟩
   refine ρ ?_;exact Jb false sB ⟨by grind [Ih],rfl⟩
  refine ρ ?_;exact Jb false sB ⟨by grind [Ih],rfl⟩
 rintro t Z ⟨rfl,rfl⟩;refine ρ ?_;have h3:=Qvd a b;refine ci (λh=>?_) (λh=>?_)
 .have:=(Qxr a b).1 h;refine ρ ?_;refine Jj ⟨?_,J⟩;grind
 have:¬ cmpV a b<0:=by grind [Qxr]
 refine ρ ?_;refine Jj ⟨?_,J⟩;grind
theorem Qjf{ds:List Bool}(ha:RowV w va a)(hb:RowV w vb b)(hd:BoolsV w vd ds):
  Ret Tryz.prog 58 [va,vb,vd] w λr w'=>(∃ c:Int,r=.int .i64 c/\(c<0↔Jw a b ds<0)/\(c=0↔a=b))/\Ext w w':=by
 obtain⟨A,ac,rfl,ah,ag,ha⟩:=ha;obtain⟨B,bc,rfl,af,ae,hb⟩:=hb;obtain⟨D,dc,rfl,ad,ab,hd⟩:=hd;refine Jz Tryz.func58 Tryz.ntmps58 rfl kr rfl ?_;refine ρ ?_;refine Qf (λk=>[(0,.slice A a.length ac),(1,.slice B b.length bc),(2,.slice D ds.length dc),(7,.int .i64 ((k:Nat):Int))])
  (λk w'=>Ext w w'/\k<=a.length/\k<=b.length/\Jw a b ds=Jw (a.drop k) (b.drop k) (ds.drop k)) (λk=>a.length-k) 0 sB ⟨Ext.refl w,Nat.zero_le _,Nat.zero_le _,rfl⟩ ?_
 rintro k w1 ⟨hx,aa,a9,he⟩;have a7:=ha.ext hx;have a6:=hb.ext hx;have sgl:∀ c:Int,c=Jw a b ds->(c<0↔Jw a b ds<0)/\(c=0↔a=b):=λc hc=>by grind [Jzk,Yj]
 have Z:(a.length<=k∨b.length<=k)->(((a.length:Int)-(b.length:Int)<0↔Jw a b ds<0)/\((a.length:Int)-(b.length:Int)=0↔a=b)):=λh=>by grind [Qvl,Jw,Jzk,Yj,Nat.lt_trichotomy]
 refine ρ ?_;refine ki 13 (λh=>?_) (λh=>?_)
 .have J:k<a.length:=by have:=oT h;omega
  refine ρ ?_;refine ci (λh=>?_) (λh=>?_)
  .have G:k<b.length:=by have:=oT h;omega
   refine ρ ?_;refine dr [(0,0),(0,1),(0,2),(0,3),(0,4),(0,5),(0,6),(0,7),(1,8),(0,9)] kr ?_;have C:Ext w1 w1.drew:=(Ext.refl w1).drew;have a5:=a7.ext C;have a4:=a6.ext C;refine ρd ?_;refine Vw 3 k a5 J ?_;refine ρd ?_;refine Jo (λj u hu=>RdR.cell a5 J hu) ?_;refine ρd ?_;refine Vw 3 k a4 G ?_;refine ρd ?_;refine Jo (λj u hu=>RdR.cell a4 G hu) ?_;refine ρd ?_;refine dcl (Qmk (a.getD k V0) (b.getD k V0) _) ?_;rintro x w2 ⟨rfl,a1⟩;refine⟨a1,?_⟩;have o:Ext w w2:=(hx.trans C).trans a1;have a3:=hd.ext o;refine ρd ?_;refine ρ ?_;have step:=Qvn (ds:=ds) J G;have a8:∀ d,neg d (cmpV (a.getD k V0) (b.getD k V0))=0↔cmpV (a.getD k V0) (b.getD k V0)=0:=λd=>by cases d<;>simp[neg]
   refine Vn (fun (t:Bool)=>[(0,.slice A a.length ac),(1,.slice B b.length bc),(2,.slice D ds.length dc),(7,.int .i64 ((k:Nat):Int)),(8,.int .i64 (cmpV (a.getD k V0) (b.getD k V0))),(39,.bool t)]) (λt w3=>t=ds.getD k false/\w3=w2) ?_ ?_
   .refine ki 34 (λh=>?_) (λh=>?_)
    .have a2:k<ds.length:=by have:=oT h;omega
     refine ρ ?_;refine ix k a3 a2 ?_;refine ρ ?_;refine ld (RdB.cell a3 a2) ?_;refine ρ ?_;exact Jb _ sB ⟨rfl,rfl⟩
    have h1:ds.getD k false=false:=by grind
    refine ρ ?_;exact Jb false sB ⟨h1.symm,rfl⟩
   rintro t w3 ⟨rfl,rfl⟩;refine ρ ?_;have more:∀ c:Int,c=neg (ds.getD k false) (cmpV (a.getD k V0) (b.getD k V0))->c≠0->c=Jw a b ds:=λc hc h0=>by grind
   refine ci (λh1=>?_) (λh1=>?_)
   .refine ρ ?_;rw[Jpg];rw[h1]at more;refine ci (λh=>?_) (λh=>?_)
    .refine ρ ?_;exact Jj ⟨⟨_,rfl,sgl _ (more _ rfl (Uf h))⟩,o⟩
    refine ρ ?_;refine Qw (k+1) sB ⟨o,om,om,?_⟩ om;grind
   refine ρ ?_;rw[h1]at more;refine ci (λh=>?_) (λh=>?_)
   .refine ρ ?_;exact Jj ⟨⟨_,rfl,sgl _ (more _ rfl (Uf h))⟩,o⟩
   refine ρ ?_;refine Qw (k+1) sB ⟨o,om,om,?_⟩ om;grind
  have O:=Z (by grind);refine ρ ?_;exact Jj ⟨⟨_,rfl,O⟩,hx⟩
 have O:=Z (by grind);refine ρ ?_;exact Jj ⟨⟨_,rfl,O⟩,hx⟩
theorem Jth(ha:RowV w va a)(hb:RowV w vb b):
  Ret Tryz.prog 19 [va,vb] w λr w'=>r=.bool (decide (a=b))/\Ext w w':=by
 obtain⟨A,ac,rfl,G,D,_⟩:=id ha;obtain⟨B,Z,rfl,C,u,_⟩:=id hb;refine Jz Tryz.func19 Tryz.ntmps19 rfl kr rfl ?_;refine ρ ?_;refine ki 10 (λh=>?_) (λh=>?_)
 .refine ρ ?_;refine cl (Qjf ha hb (BoolsV.nil w none 0)) ?_;rintro x J ⟨⟨c,rfl,_,O⟩,o⟩;refine ρ ?_;refine Jj ⟨?_,o⟩;grind
 refine ρ ?_;refine Jj ⟨?_,Ext.refl w⟩;rw[decide_eq_false (λe=>by grind)]
open Go.RowKit Pl Go.Wk
variable {v vd vr:Value}{w w0:World}
theorem RowV.ones{ps:List Pr}(h:∀ p∈ps,RowV w p.1 p.2): ∀ u∈ps.map (·.1),u.oneCell'=true:=by
 intro u o;obtain⟨p,hp,rfl⟩:=List.mem_map.1 o;exact(h p hp).one
theorem Qpt{e sz m:Nat}{xs:List Value}(h:w.ownsRow w0.heap.size e sz v m xs): Fresh w0 v:=λu n c e=>by
 rcases h.2 with⟨o,_⟩|⟨g,cap,cur,o,hb,_⟩
 repeat grind
theorem Qjd{l:List Row}{r:Row}{ds:List Bool}(hl:RowsV w v l)(hr:RowV w vr r)(hd:BoolsV w vd ds)(hlt:Lt ds l)(hlen:l.length<=1000000):
  Ret Tryz.prog 51 [v,vr,vd] w λx w'=>RowsV w' x (Zd ds l r)/\Ext w w'/\(x=v∨Fresh w x):=by
 obtain⟨ps,A,c,rfl,rfl,h3,h4,h5,h6⟩:=id hl;have hn:ps.length<=1000000:=by simpa using hlen
 obtain⟨B,bc,aa,am,ak,aj⟩:=id hr;refine Jz Tryz.func51 Tryz.ntmps51 rfl kr rfl ?_;refine ρ ?_;refine Qf (λk=>[(0,.slice A ps.length c),(1,vr),(2,vd),(7,.int .i64 ((k:Nat):Int))])
  (λk w'=>Ext w w'/\k<=ps.length/\∀ i,i<k->Jw ((ps.map (·.2)).getD i []) r ds<0) (λk=>ps.length-k) 0 sB ⟨Ext.refl w,Nat.zero_le _,λi hi=>om⟩ ?_
 rintro k w1 ⟨D,hk,hp⟩;refine ρ ?_;refine Vn (fun (t:Bool)=>[(0,.slice A ps.length c),(1,vr),(2,vd),(7,.int .i64 ((k:Nat):Int)),(22,.bool t)])
  (λt w2=>Ext w1 w2/\t=decide (k<ps.length/\Jw ((ps.map (·.2)).getD k []) r ds<0)) ?_ ?_
 .refine ki 13 (λh=>?_) (λh=>?_)
  .have hlt:k<ps.length:=by have:=oT h;omega
   refine ρ ?_;refine ix k (h5.ext D) hlt ?_;refine ρ ?_;refine ld ((h5.ext D).cell (Jkn hlt)) ?_;refine ρ ?_;refine cl (Qjf ((h6 _ (getD_mem' z0 ps hlt)).ext D) (hr.ext D) (hd.ext D)) ?_;rintro x w2 ⟨⟨cc,rfl,ai,ah⟩,a2⟩;refine ρ ?_;refine Jb _ sB ⟨a2,?_⟩;grind
  have hlt:¬ k<ps.length:=by have:=oF h;omega
  refine ρ ?_;exact Jb false sB ⟨Ext.refl _,(dF (λh=>hlt h.1)).symm⟩
 rintro t w2 ⟨a2,rfl⟩;have o:=D.trans a2;refine ρ ?_;refine ci (λh=>?_) (λh=>?_)
 .obtain⟨hlt,hc⟩:=oT h;refine ρ ?_;refine Qw (k+1) sB ⟨o,om,λi hi=>?_⟩ om;grind
 have ab:=oF h;obtain⟨a7,ag⟩:=Qmp hlt (r:=r) (k:=k) (by simpa using hk) (by grind) (by grind);refine ρ ?_;refine Vn (fun (t:Bool)=>[(0,.slice A ps.length c),(1,vr),(7,.int .i64 ((k:Nat):Int)),(36,.bool t)])
  (λt w3=>Ext w2 w3/\t=decide (r∈ps.map (·.2))) ?_ ?_
 .refine ki 29 (λh=>?_) (λh=>?_)
  .have hlt:k<ps.length:=by have:=oT h;omega
   refine ρ ?_;refine ix k (h5.ext o) hlt ?_;refine ρ ?_;refine ld ((h5.ext o).cell (Jkn hlt)) ?_;refine ρ ?_;refine cl (Jth ((h6 _ (getD_mem' z0 ps hlt)).ext o) (hr.ext o)) ?_;rintro x w3 ⟨rfl,a1⟩;refine ρ ?_;refine Jb _ sB ⟨a1,?_⟩;grind
  have hlt:¬ k<ps.length:=by have:=oF h;omega
  refine ρ ?_;refine Jb false sB ⟨Ext.refl _,(dF (λh=>?_)).symm⟩;grind
 rintro t w3 ⟨a1,rfl⟩;have C:=o.trans a1;refine ρ ?_;refine ci (λh=>?_) (λh=>?_)
 .have a3:=oT h;refine ρ ?_;refine Jj ⟨?_,C,.inl rfl⟩;unfold Zd;rw[if_pos a3];exact hl.ext C
 have a3:=oF h;have Z:=RowV.ones h6;refine ρ ?_;refine bsl Qyl ?_;intro w4 b a9 ao ae;have O:=C.trans a9;refine ρ ?_;refine slh k ?_;refine ρ ?_;refine apo (a:=w) O ER (ae.own (n:=0) (by have:=C.size;omega) rfl (Nat.zero_le _)) ((h5.ext O).take (m:=k) hk) (λu hu=>Z u (List.mem_of_mem_take hu)) (by unfold maxLen;omega) om ?_;intro v5 w5 a6 a8 _ _;rw[Nat.mul_one]at a6;refine ρ ?_;refine bsl (λw=>Jdb vr w B _ bc aa) ?_;intro w6 b6 a5 an ad;refine ρ ?_;refine apo (a:=w) (a8.trans a5) ER (Jk a6 a5) ad.one (λu hu=>by rw[List.mem_singleton.1 hu];exact hr.one) (by unfold maxLen;omega) om ?_;intro v7 w7 ac a4 _ _;refine ρ ?_;refine sll k ?_;refine ρ ?_;refine apo (a:=w) a4 ER ac ((h5.ext a4).drop (k:=k) (c:=c) hk h3) (λu hu=>Z u (List.mem_of_mem_drop hu)) (by unfold maxLen;omega) om ?_;intro v8 w8 J G _ _;rw[Nat.mul_one]at J;refine ρ ?_;refine Jj ⟨?_,G,.inr (Qpt J)⟩
 have e0:Zd ds (ps.map (·.2)) r=(ps.take k++[(vr,r)]++ps.drop k).map (·.2):=by
  unfold Zd;rw[if_neg a3,a7];simp
 have el:(ps.take k++[(vr,r)]++ps.drop k).length=0+k+1+(ps.length-k):=by simp;omega
 have ec:(ps.take k++[(vr,r)]++ps.drop k).map (·.1)=[]++(ps.map (·.1)).take k++[vr]++(ps.map (·.1)).drop k:=by simp
 rw[e0];obtain⟨A8,c8,rfl,af,_⟩:=Jy J;refine⟨_,A8,c8,rfl,by rw[el],by rw[el];exact af,by rw[el];omega,by rw[el,ec];exact Rd.own J,λp hp=>?_⟩;simp only[List.mem_append,List.mem_singleton]at hp;rcases hp with(hp|hp)|hp
 .exact(h6 p (List.mem_of_mem_take hp)).ext G
 .rw[hp];exact hr.ext G
 exact(h6 p (List.mem_of_mem_drop hp)).ext G
end Go.Proofs.YtbcdghbonlifdaaGreatDoor
namespace Go.Proofs.YtbcdghbonlifdaaGreatDoor
open Pl Go.Wk
variable {l out:List Row}{i k m v:Nat}{vars:Nat->List Nat}{g g':Nat->Row}{y z:Row}
theorem Jhh{α:Type}: ∀ {l m:List α},l.Nodup->(∀ x∈l,x∈m)->l.length<=m.length
 | [],_,_,_=>Nat.zero_le _
 | x::l,m,hn,hs=>by
  obtain⟨a,b,rfl⟩:=List.append_of_mem (hs x mC);have hn':=List.nodup_cons.1 hn;have:=Jhh (l:=l) (m:=a++b) hn'.2 λy hy=>by grind
  grind
def Io(rs:Nat->List Row): Nat->List (List Row)
 | 0=>[[]]
 | m+1=>(Io rs m).flatMap λc=>(rs m).map λr=>c++[r]
theorem Qwx(rs:Nat->List Row): ∀ m,(Io rs m).length=Jd m λi=>(rs i).length
 | 0=>rfl
 | m+1=>by
  rw[Io,Jd,<-Qwx rs m];generalize Io rs m=l
  induction l with
  | nil=>simp
  | cons c l ih=>rw[List.flatMap_cons,List.length_append,ih,List.length_map,List.length_cons,Nat.succ_mul,Nat.add_comm]
theorem Qww{rs:Nat->List Row}(g:Nat->Row): ∀ m,(∀ i,i<m->g i∈rs i)->(List.range m).map g∈Io rs m
 | 0,_=>by simp[Io]
 | m+1,h=>by
  rw[List.range_succ,List.map_append,Io,List.mem_flatMap];refine⟨_,Qww g m λi hi=>h i om,?_⟩;grind
theorem Qws{rs:Nat->List Row}(F:(Nat->Row)->Row)(hF:∀ g g',(∀ i,i<m->g i=g' i)->F g=F g')(hn:l.Nodup)(h:∀ x∈l,∃ g:Nat->Row,(∀ i,i<m->g i∈rs i)/\x=F g):
  l.length<=Jd m λi=>(rs i).length:=by
 rw[<-Qwx];have:=Jhh (m:=(Io rs m).map λc=>F λi=>c.getD i []) hn λx o=>by
  obtain⟨g,u,rfl⟩:=h x o;refine List.mem_map.2 ⟨_,Qww g m u,hF _ _ λi hi=>?_⟩;simp[List.getD,hi]
 grind
theorem Qxm{ds:List Bool}(h:Lt ds l): l.Nodup:=h.imp fun {a b} hab e=>by grind [Yj]
def Jjq(m:Nat)(vars:Nat->List Nat)(g:Nat->Row)(v:Nat): V:=match(List.range m).find? λi=>decide (v∈vars i) with
 | some i=>(g i).getD (lv (vars i) v) V0
 | none=>V0
theorem Qqg(h:∀ i,i<m->g i=g' i)(v:Nat): Jjq m vars g v=Jjq m vars g' v:=by grind [Jjq,List.range,List.mem_range.1,List.mem_of_find?_eq_some]
theorem Qqf(hasc:∀ i,i<m->Ql (vars i))(hc:∃ i,i<m/\v∈vars i)(h:∀ i,i<m->∀ j,j<(vars i).length->(vars i).getD j 0=v->(g i).getD j V0=z.getD v V0): Jjq m vars g v=z.getD v V0:=by
 unfold Jjq;cases hf:(List.range m).find? λi=>decide (v∈vars i) with
 | none=>
  grind
 | some i=>
  have hi:=List.mem_range.1 (List.mem_of_find?_eq_some hf);have o:v∈vars i:=by grind
  have:=Yy (hasc i hi) o;grind
section
variable (m:Nat) (vars:Nat->List Nat) (rs:Nat->List Row)
def Um(vl:List Nat)(r:Row): Bool:=(List.range m).all λi=>(rs i).any λx=>decide (pmR (Qe (vars i) (Qd vl &&& Qd (vars i))) x=pmR (Qe vl (Qd vl &&& Qd (vars i))) r)
def Jwx(v:Nat): List Row:=(List.range m).flatMap λi=>(List.range (vars i).length).flatMap λk=>if(vars i).getD k 0=v then(rs i).map λr=>[r.getD k V0] else[]
def Ue(v:Nat): List Row:=(Jwx m vars rs v).foldl (Zd []) []
def Xc(v:Nat): List V:=(Ue m vars rs v).map λr=>r.getD 0 V0
def Jjk(vl:List Nat)(k:Nat)(out:List Row): List Row:=out.flatMap λr=>((Xc m vars rs (vl.getD k 0)).map λx=>r++[x]).filter (Um m vars rs (vl.take (k+1)))
def Xv(vl:List Nat): Nat->List Row
 | 0=>[[]]
 | k+1=>Jjk m vars rs vl k (Xv vl k)
def Xs(n:Nat): List Row:=if n=0 then(if Um m vars rs [] [] then[[]] else[]) else Xv m vars rs (List.range n) n
end
section
variable {n m:Nat} {vars:Nat->List Nat} {rs:Nat->List Row}
theorem Jzc{ds:List Bool}: ∀(ls:List Row) {done l:List Row},Zz ds done l->Zz ds (done++ls) (ls.foldl (Zd ds) l)
 | [],done,l,h=>by simpa using h
 | r::ls,done,l,h=>by
  rw[List.foldl_cons];have:=Jzc ls (Qng (r:=r) h);grind
theorem Jyl(v:Nat): Zz [] (Jwx m vars rs v) (Ue m vars rs v):=by
 have:=Jzc (ds:=[]) (Jwx m vars rs v) (done:=[]) (l:=[]) ⟨List.Pairwise.nil,λx=>Iff.rfl⟩;rwa [List.nil_append]at this
theorem enumV_mem: y∈Jwx m vars rs v↔∃ i,i<m/\∃ k,k<(vars i).length/\(vars i).getD k 0=v/\∃ r∈rs i,y=[r.getD k V0]:=by
 unfold Jwx;grind
theorem valL_mem{x:V}: x∈Xc m vars rs v↔∃ i,i<m/\∃ k,k<(vars i).length/\(vars i).getD k 0=v/\∃ r∈rs i,x=r.getD k V0:=by
 unfold Xc;rw[List.mem_map];constructor
 .rintro⟨y,C,rfl⟩;obtain⟨i,hi,k,u,e,r,o,rfl⟩:=enumV_mem.1 (((Jyl v).2 y).1 C);grind
 rintro⟨i,hi,k,u,e,r,o,rfl⟩;exact⟨_,((Jyl v).2 _).2 (enumV_mem.2 ⟨i,hi,k,u,e,r,o,rfl⟩),rfl⟩
theorem Jrh(hy:y∈Ue m vars rs v): ∃ x,y=[x]:=by
 obtain⟨i,hi,k,u,e,r,o,rfl⟩:=enumV_mem.1 (((Jyl v).2 y).1 hy);exact⟨_,rfl⟩
theorem Qfd(v:Nat): (Xc m vars rs v).Nodup:=by
 unfold Xc List.Nodup;rw[List.pairwise_map];refine List.Pairwise.imp_of_mem (fun {a b} ha hb hab e=>?_) (Jyl (m:=m) (vars:=vars) (rs:=rs) v).1;grind [Jrh,List.getD_cons_zero,Yj]
theorem Xxf{α β:Type}{f:α->List β}{l:List α}(h1:l.Nodup)(h2:∀ a∈l,(f a).Nodup)(h3:∀ a∈l,∀ b∈l,∀ x,x∈f a->x∈f b->a=b): (l.flatMap f).Nodup:=by
 induction l with
 | nil=>exact List.Pairwise.nil
 | cons a l ih=>
  grind
theorem Qhn{vl:List Nat}(h:out.Nodup): (Jjk m vars rs vl k out).Nodup:=by
 unfold Jjk;refine Xxf h (λr _=>?_) λa _ b _ x u o=>?_
 .grind [List.Pairwise.sublist,List.filter_sublist,List.map,List.Nodup,Qfd,List.append_cancel_left]
 obtain⟨D,J,rfl⟩:=List.mem_map.1 (List.mem_filter.1 u).1;obtain⟨C,G,e⟩:=List.mem_map.1 (List.mem_filter.1 o).1;have:=congrArg List.dropLast e;simpa using this.symm
theorem Qbf(vl:List Nat): ∀ k,(Xv m vars rs vl k).Nodup
 | 0=>by simp[Xv]
 | k+1=>Qhn (Qbf vl k)
def Ka(m:Nat)(vars:Nat->List Nat)(rs:Nat->List Row)(k:Nat)(z:Row): Prop:=∀ i,i<m->∃ x∈rs i,∀ j,j<(vars i).length->(vars i).getD j 0<k->x.getD j V0=z.getD ((vars i).getD j 0) V0
theorem Jjn{n:Nat}(h:i<n): (List.range n).getD i 0=i:=by simp[List.getD,h]
theorem Xzw(k s:Nat): Qe (List.range k) s=(List.range k).filter λu=>s.testBit u:=by grind [Qe,List.length_range,List.filter_congr,Jjn,List.mem_range.1]
theorem Xyt{l:List Nat}{p:Nat->Bool}(ha:Ql l)(hp:∀ u,p u=true↔u∈l): (List.range k).filter p=l.filter λu=>decide (u<k):=by
 have key:∀ {a b:List Nat},Ql a->Ql b->(∀ u,u∈a↔u∈b)->a=b:=by
  intro a;induction a with
  | nil=>
   intro b _ _ h;cases b with
   | nil=>rfl
   | cons y b=>have:=(h y).2 mC;cases this
  | cons x a ih=>
   intro b ha C h;cases b with
   | nil=>have:=(h x).1 mC;cases this
   | cons y b=>
    obtain⟨O,G⟩:=List.pairwise_cons.1 ha;obtain⟨J,D⟩:=List.pairwise_cons.1 C;have o:x=y:=by grind [List.mem_cons_self,List.mem_cons.1]
    subst o;rw[ih G D λu=>?_];grind
 refine key (List.Pairwise.sublist List.filter_sublist List.pairwise_lt_range) (List.Pairwise.sublist List.filter_sublist ha) λu=>?_;grind
theorem Jmb(hasc:∀ i,i<m->Ql (vars i))(hlen:∀ i,i<m->∀ r∈rs i,r.length=(vars i).length)(k:Nat)(z:Row): Um m vars rs (List.range k) z=true↔Ka m vars rs k z:=by
 unfold Um Ka;simp only[List.all_eq_true,List.mem_range,List.any_eq_true,decide_eq_true_eq];refine⟨λh i hi=>?_,λh i hi=>?_⟩;all_goals
  have hs:∀ u,(Qd (List.range k) &&& Qd (vars i)).testBit u=true↔u<k/\u∈vars i:=λu=>by
   rw[Nat.testBit_and,Bool.and_eq_true,edgeOf_bit,edgeOf_bit,List.mem_range]
  obtain⟨x,o,e⟩:=h i hi;refine⟨x,o,?_⟩;have J:Qe (List.range k) (Qd (List.range k) &&& Qd (vars i))=inS (vars i) (Qd (List.range k) &&& Qd (vars i)):=by
   rw[Xzw];have:(List.range k).filter (λu=>(Qd (List.range k) &&& Qd (vars i)).testBit u)=(List.range k).filter λu=>decide (u∈vars i):=List.filter_congr λu D=>by grind
   rw[this,Xyt (hasc i hi) λu=>by simp];unfold inS;refine List.filter_congr λu D=>?_;grind
  have C:=Jml (vars:=vars i) (s:=Qd (List.range k) &&& Qd (vars i)) (r:=x) (z:=z) (hlen i hi x o) (vars i).length (nR _);rw[List.take_length]at C;have G:Zx (vars i) (Qd (List.range k) &&& Qd (vars i)) (vars i).length=Qe (vars i) (Qd (List.range k) &&& Qd (vars i)):=rfl;rw[G]at C
 repeat grind
theorem Xxk{l:Nat}(hkl:k<=l): Ka m vars rs k (z.take l)↔Ka m vars rs k z:=by grind [Ka,V0]
theorem Jdg(hasc:∀ i,i<m->Ql (vars i))(hlen:∀ i,i<m->∀ r∈rs i,r.length=(vars i).length)(hn:∀ v,v<n->∃ i,i<m/\v∈vars i): ∀ k,k<=n->∀ z:Row,z∈Xv m vars rs (List.range n) k↔z.length=k/\(k=0∨Ka m vars rs k z)
 | 0,_,z=>by grind [Xv,List.mem_singleton,List.eq_nil_of_length_eq_zero]
 | k+1,hk,z=>by
  have ih:=Jdg hasc hlen hn k om;rw[Xv];unfold Jjk;rw[Jjn om,Qmr om];simp only[List.mem_flatMap,List.mem_filter,List.mem_map];constructor
  .grind [Jmb]
  rintro⟨hl,h⟩;have hf:Ka m vars rs (k+1) z:=h.resolve_left om;have hz:z=z.take k++[z.getD k V0]:=Jss V0 hl;refine⟨z.take k,(ih _).2 ⟨by grind,?_⟩,⟨z.getD k V0,?_,hz.symm⟩,(Jmb hasc hlen (k+1) _).2 hf⟩
  .refine .inr ((Xxk (nR _)).2 λi hi=>?_);obtain⟨x,hx,h1⟩:=hf i hi;grind
  obtain⟨i,hi,hv⟩:=hn k om;obtain⟨x,hx,h1⟩:=hf i hi;have h2:=Yy (hasc i hi) hv;refine valL_mem.2 ⟨i,hi,_,h2.2.1,h2.2.2,x,hx,?_⟩;grind
theorem Qbg(hasc:∀ i,i<m->Ql (vars i))(hlen:∀ i,i<m->∀ r∈rs i,r.length=(vars i).length)(hn:∀ v,v<n->∃ i,i<m/\v∈vars i)(hk:k<=n): (Xv m vars rs (List.range n) k).length<=max 1 (Jd m λi=>(rs i).length):=by
 by_cases h0:k=0
 .subst h0;simp only[Xv,List.length_singleton];omega
 refine nL (Qws (F:=λg=>(List.range k).map (Jjq m vars g)) (λg g' o=>List.map_congr_left λv _=>Qqg o v) (Qbf _ k) λx D=>?_) (Nat.le_max_right _ _);obtain⟨Z,O⟩:=(Jdg hasc hlen hn k hk x).1 D;have C:Ka m vars rs k x:=O.resolve_left h0;obtain⟨g,o⟩:∃ g:Nat->Row,∀ i,i<m->g i∈rs i/\∀ j,j<(vars i).length->(vars i).getD j 0<k->(g i).getD j V0=x.getD ((vars i).getD j 0) V0:=by
  refine⟨λi=>if hi:i<m then Classical.choose (C i hi) else[],λi hi=>?_⟩;simp only[hi,dite_true];exact Classical.choose_spec (C i hi)
 refine⟨g,λi hi=>(o i hi).1,?_⟩;apply List.ext_getElem
 .simp[Z]
 intro v u G;have hp:=Qqf (g:=g) (z:=x) hasc (hn v om) λi hi j J e=>by
  have:=(o i hi).2 j J om;rw[e]at this;exact this
 rw[List.getElem_map,List.getElem_range,hp];simp[List.getD,u]
theorem Jlf(hasc:∀ i,i<m->Ql (vars i))(hlen:∀ i,i<m->∀ r∈rs i,r.length=(vars i).length)(hlt:∀ i,i<m->∀ v∈vars i,v<n)(hn:∀ v,v<n->∃ i,i<m/\v∈vars i)(z:Row): z∈Xs m vars rs n↔Zc n m vars rs z:=by
 have key:z.length=n->(Ka m vars rs n z↔∀ i,i<m->pmR (vars i) z∈rs i):=λo=>by
  constructor
  .intro h i hi;obtain⟨x,u,D⟩:=h i hi;grind [pmR,List.ext_getElem,Xj,getD_mem',List.getD,V0]
  intro h i hi;grind [pmR,List.getD]
 unfold Xs Zc;split
 .rename_i h0;subst h0;have C:=Jmb (vars:=vars) (rs:=rs) hasc hlen 0 [];grind
 rename_i h0;rw[Jdg hasc hlen hn n (nR _) z];grind
theorem Qzd(hasc:∀ i,i<m->Ql (vars i))(hlen:∀ i,i<m->∀ r∈rs i,r.length=(vars i).length)(hn:∀ v,v<n->∃ i,i<m/\v∈vars i): (Xs m vars rs n).length<=max 1 (Jd m λi=>(rs i).length):=by
 unfold Xs;split
 .grind
 exact Qbg hasc hlen hn (nR _)
end
end Go.Proofs.YtbcdghbonlifdaaGreatDoor
namespace Go.Wk
open Go.RowKit
variable {k2:IntKind}{s v:Nat}{x y:Operand}{t yt:TypeId}
section
variable {P:Program} {n:Nat} {al:AL} {w:World} {Q:Exit->Act->World->Prop} {ops:Array Oper} {rest:List Oper} {d ty:Nat} {pos:String} {aft:Array Edge}
theorem sr32g(hv:v<=32)(kk:WL P n ops Q rest ((d,.int .u32 ((s / 2^v:Nat):Int))::al) w)(hx:ev al x=some (.int .u32 (s:Int)):=by rfl)(hy:ev al y=some (.int k2 (v:Int)):=by rfl)(hd:Nat.blt d n=true:=by rfl):
  WL P n ops Q (⟨some d,.binOp .shr t x y yt,ty,pos,aft,none⟩::rest) al w:=by
 rw[<-Jtb s v hv]at kk;exact wop hd (λa o=>Jtj hx hy om o (some d) w) kk
theorem Jst(hv:v<32)(kk:WL P n ops Q rest ((d,.int .u32 ((2^v:Nat):Int))::al) w)(hy:ev al y=some (.int k2 (v:Int)):=by rfl)(hd:Nat.blt d n=true:=by rfl):
  WL P n ops Q (⟨some d,.binOp .shl t (.const (.int .u32 1)) y yt,ty,pos,aft,none⟩::rest) al w:=by
 rw[<-Jyv hv]at kk;exact wop hd (λa o=>Jkh (x:=.const (.int .u32 1)) rfl hy om o (some d) w) kk
end
end Go.Wk
namespace Go.Proofs.YtbcdghbonlifdaaGreatDoor
open Go.RowKit Pl Go.Wk
attribute [local irreducible] WC WL QX WD WDB WP WN WG WH
variable {l vars:List Nat}{s:Nat}{rv v vv:Value}{w:World}
theorem IntsV.n(h:IntsV w v (nz l)): ∃ A c,v=.slice A l.length c/\l.length<=c/\l.length<=1100000/\Rd w 1 A l.length (Jp (nz l)):=by
 obtain⟨A,c,D,C,u,o⟩:=h;grind [Je]
theorem Qjk{v:Nat}(hs:s<4294967296)(hv:v<=32)(w:World): Ret Tryz.prog 188 [.int .u32 (s:Int),.int .i64 (v:Int)] w λu w'=>u=.bool (s.testBit v)/\w'=w:=by
 refine Jz Tryz.func188 Tryz.ntmps188 rfl kr rfl ?_;refine ρ ?_;refine Go.Wk.kv 7 (congrArg (λz=>Value.int .u64 z) (Gm (z:=(v:Int)) om)) ?_;refine sr32g (s:=s) (v:=v) hv ?_;refine ρ ?_;rw[Gd hs];exact Jj ⟨rfl,rfl⟩
theorem Qjh(h:IntsV w v (nz l))(hl:∀ u∈l,u<32): Ret Tryz.prog 189 [v] w λu w'=>u=.int .u32 (Qd l:Int)/\w'=w:=by
 obtain⟨A,c,rfl,hc,hm,G⟩:=h.n;refine Jz Tryz.func189 Tryz.ntmps189 rfl kr rfl ?_;refine ρ ?_;refine Qf (fun (i:Nat)=>[(0,.slice A l.length c),(3,.int .u32 (Qd (l.take i):Int)),(4,.int .i64 (i:Int))])
  (λi w'=>i<=l.length/\w'=w) (λi=>l.length-i) 0 sB ⟨Nat.zero_le _,rfl⟩ ?_
 rintro i w1 ⟨hi,rfl⟩;refine ρ ?_;refine ci (λh=>?_) (λh=>?_)
 .have C:i<l.length:=by have:=oT h;omega
  clear h;have o:=hl _ (getD_mem' 0 l C);refine ρ ?_;refine ix i G C ?_;refine ρ ?_;refine ld (G.cell (Xt C)) ?_;refine ρ ?_;refine Go.Wk.kv 16 (congrArg (λz=>Value.int .u64 z) (Gm (z:=(l.getD i 0:Int)) om)) ?_;refine Jst (v:=l.getD i 0) o ?_;refine ρ ?_;have e:Qd (l.take (i+1))=Qd (l.take i) ||| 2^l.getD i 0:=by rw[Qc 0 C];exact Qwc _ _ _
  have Z:Qd (l.take i)<4294967296:=Jzg (n:=32) λv J=>hl v (List.mem_of_mem_take J);have O:=Jjc Z (Kd o);rw[O,<-e];exact Qw (i+1) sO ⟨C,rfl⟩ om
 have D:i=l.length:=by have:=oF h;omega
 subst D;clear h;refine ρ ?_;rw[List.take_length];exact Jj ⟨rfl,rfl⟩
theorem Qjj{r:Row}(hr:RowV w rv r)(hv:IntsV w vv (nz vars))(hs:s<4294967296)(hl:∀ u∈vars,u<32)(hrl:r.length=vars.length):
  Ret Tryz.prog 190 [rv,vv,.int .u32 (s:Int)] w λu w'=>RowV w' u (pmR (Qe vars s) r)/\Ext w w':=by
 obtain⟨A,c,rfl,hc,hm,hR⟩:=id hr;obtain⟨B,d,rfl,hd,aa,hV⟩:=hv.n;refine Jz Tryz.func190 Tryz.ntmps190 rfl kr rfl ?_;refine ρ ?_;refine bsl Kt ?_;intro w0 b0 a1 a7 a8;refine ρ ?_;refine Jt (fun (k:Nat) (D:Value)=>[(0,.slice A r.length c),(1,.slice B vars.length d),(2,.int .u32 (s:Int)),(7,D),(8,.int .i64 (k:Int))])
  (λk D w'=>k<=vars.length/\Ext w w'/\Vv w' w.heap.size D (pmR (Zx vars s k) r)) (λk _=>vars.length-k) 0 (.slice (some ⟨b0,0,none⟩) 0 0) sB
  ⟨Nat.zero_le _,a1,a8.own (n:=0) a7 rfl (Nat.zero_le _)⟩ ?_
 rintro k D w1 ⟨hk,o,J⟩;refine ρ ?_;refine ci (λh=>?_) (λh=>?_)
 .have lk:k<vars.length:=by have:=oT h;omega
  clear h;have O:RdR w1 A r:=Rd.ext hR o;have G:=hl _ (getD_mem' 0 vars lk);have a5:(Zx vars s k).length<=k:=by
   have:=List.length_filter_le (λi=>s.testBit (vars.getD i 0)) (List.range k);rw[List.length_range]at this;exact this
  refine ρ ?_;refine ix k (hV.ext o) lk ?_;refine ρ ?_;refine ld ((hV.ext o).cell (Xt lk)) ?_;refine ρ ?_;refine cl (Qjk hs (Nat.le_of_lt G) w1) ?_;rintro _ Z ⟨rfl,e1⟩;rw[e1];clear e1 Z;refine ρ ?_;refine ci (λh=>?_) (λh=>?_)
  .refine ρ ?_;refine ixq 3 k O om ?_;refine ρ ?_;refine lds (cs:=(r.getD k V0).cells) (λj u hu=>RdR.cell O om hu) ?_;refine ρ ?_;refine bsl (Jmw _) ?_;intro w2 b C hb hB;refine ρ ?_;refine apb (m':=1) (news:=(r.getD k V0).cells) EV (Jk J C) (hB.rd (n:=1) rfl) (V.one _) (by rw[Xj];unfold maxLen;omega) (by rw[Xj];omega) (o.trans C).size ?_;intro v3 w3 a2 a4 a9;refine ρ ?_;refine Jf (k+1) v3 sO ⟨lk,Qg (o.trans C) a4 (Kf (Jk J C)),?_⟩ om;have e:pmR (Zx vars s (k+1)) r=pmR (Zx vars s k) r++[r.getD k V0]:=by grind [Ks,pmR]
   rw[Vv,e,List.length_append,rowC_app',rowC_one''];exact a2
  refine ρ ?_;refine Jf (k+1) D sO ⟨lk,o,?_⟩ om;grind [Ks]
 have a3:k=vars.length:=by have:=oF h;omega
 rw[a3]at J;have a5:(Zx vars s vars.length).length<=vars.length:=by
  have:=List.length_filter_le (λi=>s.testBit (vars.getD i 0)) (List.range vars.length);rw[List.length_range]at this;exact this
 obtain⟨A3,c3,rfl,a6,_⟩:=Jy J;refine ρ ?_;refine Jj ⟨⟨A3,c3,rfl,a6,?_,Rd.own J⟩,o⟩;show(pmR (Zx vars s vars.length) r).length<=_;rw[Xj];omega
theorem Qmt(hs:s<4294967296)(w:World): Ret Tryz.prog 158 [.int .u32 (s:Int)] w λu w'=>IntsV w' u (nz (bk s 32))/\Ext w w':=by
 refine Jz Tryz.func158 Tryz.ntmps158 rfl kr rfl ?_;refine ρ ?_;refine Jt (fun (k:Nat) (D:Value)=>[(0,.int .u32 (s:Int)),(3,D),(4,.int .i64 (k:Int))])
  (λk D w'=>k<=32/\Ext w w'/\Zb w' w.heap.size D (bk s k)) (λk _=>32-k) 0 (.slice none 0 0) sB
  ⟨Nat.zero_le _,Ext.refl _,Zj _ _ _ _⟩ ?_
 rintro k D w1 ⟨hk,C,G⟩;refine ρ ?_;refine ci (λh=>?_) (λh=>?_)
 .have lk:k<32:=by have:=oT h;omega
  clear h;have a1:=Yd s k;refine ρ ?_;refine cl (Qjk hs hk w1) ?_;rintro _ J ⟨rfl,e1⟩;rw[e1];clear e1 J;refine ρ ?_;refine ci (λh=>?_) (λh=>?_)
  .refine ρ ?_;refine bsl (bs1Int'' _) ?_;intro w2 b o hb hB;refine ρ ?_;refine apI (Jk G o) hB om (C.trans o).size ?_;intro v3 w3 a3 Z a4;refine ρ ?_;refine Jf (k+1) v3 sO ⟨lk,Qg (C.trans o) Z (Kf (Jk G o)),?_⟩ om;grind [Gc]
  refine ρ ?_;refine Jf (k+1) D sO ⟨lk,C,?_⟩ om;grind [Gc]
 have O:k=32:=by have:=oF h;omega
 rw[O]at G;have a1:=Yd s 32;obtain⟨A3,c3,rfl,a2,_⟩:=Jy G;refine ρ ?_;exact Jj ⟨⟨A3,c3,by rw[Je],by rw[Je];exact a2,by rw[Je];omega,by rw[Je];exact Rd.own G⟩,C⟩
open Go.RowKit Pl Go.Wk
structure RInM(w:World)(VA RA:Option Addr)(m:Nat)(vars:Nat->List Nat)(rs:Nat->List Row): Prop where
 v:∃ cs,Rd w 1 VA m cs/\∀ i,i<m->∃ u,cs[i]?=some u/\IntsV w u (nz (vars i))
 r:∃ cs,Rd w 1 RA m cs/\∀ i,i<m->∃ u,cs[i]?=some u/\RowsV w u (rs i)
theorem RInM.ext{w w':World}{VA RA:Option Addr}{m:Nat}{vars:Nat->List Nat}{rs:Nat->List Row}(h:RInM w VA RA m vars rs)(hx:Ext w w'): RInM w' VA RA m vars rs:=by
 obtain⟨cs,J,G⟩:=h.v;obtain⟨ds,D,C⟩:=h.r;exact⟨⟨cs,J.ext hx,λi hi=>by obtain⟨u,e,o⟩:=G i hi;exact⟨u,e,o.ext hx⟩⟩,⟨ds,D.ext hx,λi hi=>by obtain⟨u,e,o⟩:=C i hi;exact⟨u,e,o.ext hx⟩⟩⟩
structure RefP(n m:Nat)(vars:Nat->List Nat)(rs:Nat->List Row): Prop where
 n32:n<=32
 m32:m<=32
 asc:∀ i,i<m->Ql (vars i)
 lt:∀ i,i<m->∀ v∈vars i,v<n
 len:∀ i,i<m->∀ r∈rs i,r.length=(vars i).length
 cov:∀ v,v<n->∃ i,i<m/\v∈vars i
 cnt:max 1 (Jd m λi=>(rs i).length)<=5000
 row:∀ i,i<m->(rs i).length<=10
def Vz(n f:Int)(pA:Option Addr)(pn pc:Nat)(VA:Option Addr)(vc:Nat)(RA:Option Addr)(rc m:Nat): List Value:=[.int .i64 n,.int .i64 f,.slice pA pn pc,.slice VA m vc,.slice RA m rc]
def Jwv(vars:Nat->List Nat)(rs:Nat->List Row)(vl:List Nat)(r:Row)(i:Nat)(x:Row): Bool:=decide (pmR (Qe (vars i) (Qd vl &&& Qd (vars i))) x=pmR (Qe vl (Qd vl &&& Qd (vars i))) r)
section
variable {n f:Int} {pA VA RA:Option Addr} {pn pc vc rc N m:Nat} {vars:Nat->List Nat} {rs:Nat->List Row} {w:World}
theorem Qjl(hP:RefP N m vars rs)(hM:RInM w VA RA m vars rs){vl:List Nat}{r:Row}{vv rv:Value}(hv:IntsV w vv (nz vl))(hr:RowV w rv r)(hvl:∀ u∈vl,u<32)(hrl:r.length=vl.length):
  Ret Tryz.prog 160 [.agg (Vz n f pA pn pc VA vc RA rc m).toArray,rv,vv] w λu w'=>u=.bool (Um m vars rs vl r)/\Ext w w':=by
 have b6:=hP.m32;refine Jz Tryz.func160 Tryz.ntmps160 rfl kr rfl ?_;refine ρ ?_;refine bx (cs:=Vz n f pA pn pc VA vc RA rc m) ?_;intro w1 b G hb hB;refine ρ ?_;refine cl (Qjh (hv.ext G) hvl) ?_;rintro _ am ⟨rfl,e1⟩;rw[e1];clear e1 am;refine ρ ?_;refine Qf (fun (i:Nat)=>[(1,rv),(2,vv),(3,.pointer (some ⟨b,0,none⟩)),(7,.int .u32 (Qd vl:Int)),(8,.int .i64 (i:Int))])
  (λi w'=>i<=m/\Ext w1 w'/\(List.range i).all (λi=>(rs i).any (Jwv vars rs vl r i))=true) (λi=>m-i) 0 sB ⟨Nat.zero_le _,Ext.refl _,rfl⟩ ?_
 rintro i w2 ⟨hi,C,ag⟩;have aa:=hB.ext C;refine ρ ?_;refine ld (aa.at (i:=3) rfl) ?_;refine ρ ?_;refine ci (λh=>?_) (λh=>?_)
 .have li:i<m:=by have:=oT h;omega
  clear h;obtain⟨b3,a1,au⟩:=(hM.ext (G.trans C)).v;obtain⟨b5,a6,av⟩:=(hM.ext (G.trans C)).r;obtain⟨vi,ac,ah⟩:=au i li;obtain⟨ri,ad,b2⟩:=av i li;have J:∀ u∈vars i,u<32:=λu hu=>by have:=hP.lt i li u hu;have:=hP.n32;omega
  refine ρ ?_;refine ld (aa.at (i:=3) rfl) ?_;refine ρ ?_;refine ix i a1 li ?_;refine ρ ?_;refine ld (a1.cell ac) ?_;refine ρ ?_;refine cl (Qjh ah J) ?_;rintro _ ak ⟨rfl,e2⟩;rw[e2];clear e2 ak;have af:Qd vl<4294967296:=Jzg (n:=32) hvl;have ay:Qd (vars i)<4294967296:=Jzg (n:=32) J;refine ρ ?_;have a3:bits .and .u32 (Qd vl:Int) (Qd (vars i):Int)=((Qd vl &&& Qd (vars i):Nat):Int):=u32_and_nat _ _ af ay;have ae:Qd vl &&& Qd (vars i)<4294967296:=Nat.lt_of_le_of_lt Nat.and_le_left af;rw[a3];clear a3;refine cl (Qjj (hr.ext (G.trans C)) (hv.ext (G.trans C)) ae hvl hrl) ?_;rintro wv w3 ⟨ar,aq⟩;refine ρ ?_;refine Jt (fun (k:Nat) (Z:Bool)=>[(1,rv),(2,vv),(3,.pointer (some ⟨b,0,none⟩)),(7,.int .u32 (Qd vl:Int)),(8,.int .i64 (i:Int)),(9,.int .u32 ((Qd vl &&& Qd (vars i):Nat):Int)),(10,wv),(11,.bool Z),(12,.int .i64 (k:Int))])
   (λk Z w'=>k<=(rs i).length/\Ext w3 w'/\Z=((rs i).take k).any (Jwv vars rs vl r i)) (λk _=>(rs i).length-k) 0 false sB ⟨Nat.zero_le _,Ext.refl _,rfl⟩ ?_
  rintro k Z w4 ⟨hk,a5,a2⟩;have o:=aq.trans a5;have a9:=aa.ext o;obtain⟨TA,tc,rfl,b8,b7,b4,ai,b1⟩:=(b2.ext o).parts;refine ρ ?_;refine ld (a9.at (i:=4) rfl) ?_;refine ρ ?_;refine ix i (a6.ext o) li ?_;refine ρ ?_;refine ld ((a6.ext o).cell ad) ?_;refine ρ ?_;have next:(rs i).any (Jwv vars rs vl r i)=true->(List.range (i+1)).all (λi=>(rs i).any (Jwv vars rs vl r i))=true:=λh=>by grind
  refine ki 42 (λh=>?_) (λh=>?_)
  .have lk:k<(rs i).length:=by have:=oT h;omega
   clear h;refine ρ ?_;refine ci (λh=>?_) (λh=>?_)
   .have a8:Z=false:=by cases Z<;>first|rfl|cases h
    subst a8;obtain⟨xv,ao,ap⟩:=b1 k lk;have an:=hP.len i li _ (getD_mem' [] (rs i) lk);have D:Ext w4 w4.drew:=(Ext.refl w4).drew;have O:=o.trans D;refine ρ ?_;refine dr [(0,0),(0,1),(0,2),(0,3),(0,4),(0,5),(0,6),(0,7),(0,8),(0,9),(0,10),(0,11),(0,12),(0,13),(0,15),(1,14),(1,16),(0,17)] kr ?_;have aj:=(a6.ext O);refine ρd ?_;refine dld ((a9.ext D).at (i:=4) rfl) ?_;refine ρd ?_;refine dix i aj li ?_;refine ρd ?_;refine dld (aj.cell ad) ?_;refine ρd ?_;refine dix k (ai.ext D) lk ?_;refine ρd ?_;refine dld ((ai.ext D).cell ao) ?_;refine ρd ?_;refine dld ((a9.ext D).at (i:=3) rfl) ?_;refine ρd ?_;refine dix i (a1.ext O) li ?_;refine ρd ?_;refine dld ((a1.ext O).cell ac) ?_;refine ρd ?_;refine dcl (Qjj (ap.ext D) (ah.ext O) ae J an) ?_;rintro pv w5 ⟨aw,a4⟩;refine⟨a4,?_⟩;refine ρd ?_;refine dcl (Jth aw (ar.ext ((a5.trans D).trans a4))) ?_;rintro _ w6 ⟨rfl,ab⟩;refine⟨ab,?_⟩
    refine ρd ?_;refine ρ ?_;refine Jf (k+1) (Jwv vars rs vl r i ((rs i).getD k [])) sO ⟨lk,((a5.trans D).trans a4).trans ab,?_⟩ om;grind [Qc,lk]
   have a7:Z=true:=by cases Z<;>first|rfl|cases h
   subst a7;refine ρ ?_;refine Qw (i+1) sO ⟨li,C.trans o,next ?_⟩ om;grind
  have lk:k=(rs i).length:=by have:=oF h;omega
  clear h;rw[lk,List.take_length]at a2;refine ρ ?_;refine ci (λh=>?_) (λh=>?_)
  .have a8:Z=false:=by cases Z<;>first|rfl|cases h
   refine ρ ?_;refine Jj ⟨?_,(G.trans C).trans o⟩;congr 1
   symm
   refine Bool.eq_false_iff.2 λhc=>?_;have:=List.all_eq_true.1 hc i (List.mem_range.2 li);rw[a8]at a2;exact Bool.false_ne_true (a2.trans this)
  have a7:Z=true:=by cases Z<;>first|rfl|cases h
  refine ρ ?_;exact Qw (i+1) sO ⟨li,C.trans o,next (by rw[<-a2];exact a7)⟩ om
 have ax:i=m:=by have:=oF h;omega
 subst ax;refine ρ ?_;exact Jj ⟨congrArg Value.bool ag.symm,G.trans C⟩
end
open Go.RowKit Pl Go.Wk
theorem EVv: ElT Tryz.prog 45 118 3 32 (.agg #[.int .i64 0,.int .i64 0,.string ⟨#[]⟩]):=⟨Tryz.underlying45,info_parts kr,rfl,by decide⟩
theorem Xwj(v:V)(w:World): (Instr.buildSlice 45 1 #[(0,v.val)]).run Tryz.prog w=.ok (.slice (some ⟨w.heap.size,0,none⟩) 1 1) (w.alloc (.cells v.cells.toArray 118)):=kr
theorem Blk.rowV{w:World}{b t:Nat}{v:V}(h:Blk w b t v.cells): RowV w (.slice (some ⟨b,0,none⟩) 1 1) [v]:=⟨some ⟨b,0,none⟩,1,rfl,Nat.le_refl _,by simp,by
 have:=h.rd (n:=1) (sz:=3) rfl;unfold RdR;grind [rowC_one'']⟩
def enI(vars:Nat->List Nat)(rs:Nat->List Row)(v i:Nat): List Row:=(List.range (vars i).length).flatMap λk=>if(vars i).getD k 0=v then(rs i).map λr=>[r.getD k V0] else[]
def enD(vars:Nat->List Nat)(rs:Nat->List Row)(v i k:Nat): List Row:=(List.range i).flatMap (enI vars rs v)++(List.range k).flatMap λk=>if(vars i).getD k 0=v then(rs i).map λr=>[r.getD k V0] else[]
def Uj(D:List Row): List Row:=D.foldl (Zd []) []
theorem Qnj(D:List Row): Zz [] D (Uj D):=by
 have:=Jzc (ds:=[]) D (done:=[]) (l:=[]) ⟨List.Pairwise.nil,λx=>Iff.rfl⟩;rwa [List.nil_append]at this
theorem Qjn(D:List Row)(r:Row): Uj (D++[r])=Zd [] (Uj D) r:=by simp[Uj]
theorem Qnk(D:List Row)(r:Row): (Uj (D++[r])).length<=(Uj D).length+1:=by
 rw[Qjn];unfold Zd;grind
section
variable {n f:Int} {pA VA RA:Option Addr} {pn pc vc rc N m:Nat} {vars:Nat->List Nat} {rs:Nat->List Row} {w:World}
theorem Qms(hP:RefP N m vars rs)(hM:RInM w VA RA m vars rs)(v:Nat):
  Ret Tryz.prog 159 [.agg (Vz n f pA pn pc VA vc RA rc m).toArray,.int .i64 (v:Int)] w λu w'=>(RowV w' u (Xc m vars rs v)/\(Xc m vars rs v).length<=10240)/\Ext w w':=by
 have bg:=hP.m32;refine Jz Tryz.func159 Tryz.ntmps159 rfl kr rfl ?_;refine ρ ?_;refine bx (cs:=Vz n f pA pn pc VA vc RA rc m) ?_;intro w1 b aa hb hB;refine ρ ?_;refine Jt (fun (i:Nat) (lv:Value)=>[(1,.int .i64 (v:Int)),(2,.pointer (some ⟨b,0,none⟩)),(5,lv),(6,.int .i64 (i:Int))])
  (λi lv w'=>i<=m/\Ext w1 w'/\RowsV w' lv (Uj ((List.range i).flatMap (enI vars rs v)))/\(Uj ((List.range i).flatMap (enI vars rs v))).length<=320*i) (λi _=>m-i) 0 (.slice none 0 0) sB
  ⟨Nat.zero_le _,Ext.refl _,⟨[],none,0,rfl,rfl,Nat.le_refl _,Nat.zero_le _,Rd.nil,λp hp=>by cases hp⟩,Nat.le_refl _⟩ ?_
 rintro i lv w2 ⟨hi,a9,o,J⟩;have ao:=hB.ext a9;refine ρ ?_;refine ld (ao.at (i:=3) rfl) ?_;refine ρ ?_;refine ci (λh=>?_) (λh=>?_)
 .have Z:i<m:=by have:=oT h;omega
  clear h;have ab:∀ u∈vars i,u<32:=λu hu=>by have:=hP.lt i Z u hu;have:=hP.n32;omega
  have aj:=Jvp (hP.asc i Z) ab;have bc:=hP.row i Z;refine ρ ?_;refine Jt (fun (k:Nat) (lv:Value)=>[(1,.int .i64 (v:Int)),(2,.pointer (some ⟨b,0,none⟩)),(5,lv),(6,.int .i64 (i:Int)),(7,.int .i64 (k:Int))])
   (λk lv w'=>k<=(vars i).length/\Ext w2 w'/\RowsV w' lv (Uj (enD vars rs v i k))/\(Uj (enD vars rs v i k)).length<=320*i+10*k) (λk _=>(vars i).length-k) 0 lv sB
   ⟨Nat.zero_le _,Ext.refl _,by unfold enD;simpa using o,by unfold enD;simpa using J⟩ ?_
  clear o J lv;rintro k lv w3 ⟨hk,C,o,J⟩;have a1:=a9.trans C;have ae:=ao.ext C;obtain⟨bd,a5,au⟩:=(hM.ext (aa.trans a1)).v;obtain⟨vi,ak,b9⟩:=au i Z;obtain⟨PA,bf,rfl,bl,bi,an⟩:=b9.n;refine ρ ?_;refine ld (ae.at (i:=3) rfl) ?_;refine ρ ?_;refine ix i a5 Z ?_;refine ρ ?_;refine ld (a5.cell ak) ?_;refine ρ ?_;refine ci (λh=>?_) (λh=>?_)
  .have lk:k<(vars i).length:=by have:=oT h;omega
   clear h;refine ρ ?_;refine ld (ae.at (i:=3) rfl) ?_;refine ρ ?_;refine ix i a5 Z ?_;refine ρ ?_;refine ld (a5.cell ak) ?_;refine ρ ?_;refine ix k an lk ?_;refine ρ ?_;refine ld (an.cell (Xt lk)) ?_;refine ρ ?_;have O:∀ D,enD vars rs v i (k+1)=D->D=enD vars rs v i k++(if(vars i).getD k 0=v then(rs i).map λr=>[r.getD k V0] else[]):=λD hD=>by grind [enD,List.range_succ,List.append_assoc]
   have O:=O _ rfl;refine ci (λh=>?_) (λh=>?_)
   .have b1:(vars i).getD k 0≠v:=λe=>by have:=Uf h;omega
    rw[if_neg b1,List.append_nil]at O;refine ρ ?_;refine Jf (k+1) lv sO ⟨lk,C,by rw[O];exact o,by rw[O];omega⟩ om
   have he:(vars i).getD k 0=v:=by have:=Gj h;omega
   rw[if_pos he]at O;clear h;refine ρ ?_;refine Jt (fun (j:Nat) (lv:Value)=>[(1,.int .i64 (v:Int)),(2,.pointer (some ⟨b,0,none⟩)),(5,lv),(6,.int .i64 (i:Int)),(7,.int .i64 (k:Int)),(8,.int .i64 (j:Int))])
    (λj lv w'=>j<=(rs i).length/\Ext w3 w'/\RowsV w' lv (Uj (enD vars rs v i k++((rs i).take j).map λr=>[r.getD k V0]))/\(Uj (enD vars rs v i k++((rs i).take j).map λr=>[r.getD k V0])).length<=320*i+10*k+j) (λj _=>(rs i).length-j) 0 lv sB
    ⟨Nat.zero_le _,Ext.refl _,by simpa using o,by simpa using J⟩ ?_
   clear o J lv;rintro j lv w4 ⟨hj,G,o,J⟩;have ai:=a1.trans G;have a7:=ae.ext G;obtain⟨be,a6,ax⟩:=(hM.ext (aa.trans ai)).r;obtain⟨ri,am,ba⟩:=ax i Z;obtain⟨TA,tc,rfl,aw,av,ap,a3,ad⟩:=ba.parts;refine ρ ?_;refine ld (a7.at (i:=4) rfl) ?_;refine ρ ?_;refine ix i a6 Z ?_;refine ρ ?_;refine ld (a6.cell am) ?_;refine ρ ?_;refine ci (λh=>?_) (λh=>?_)
   .have lj:j<(rs i).length:=by have:=oT h;omega
    clear h;obtain⟨xv,a8,a4⟩:=ad j lj;have bh:=hP.len i Z _ (getD_mem' [] (rs i) lj);obtain⟨XA,xc,rfl,ag,af,a2⟩:=id a4;refine ρ ?_;refine ld (a7.at (i:=4) rfl) ?_;refine ρ ?_;refine ix i a6 Z ?_;refine ρ ?_;refine ld (a6.cell am) ?_;refine ρ ?_;refine ix j a3 lj ?_;refine ρ ?_;refine ld (a3.cell a8) ?_;refine ρ ?_;refine ixq 3 k a2 om ?_;refine ρ ?_;refine lds (cs:=(((rs i).getD j []).getD k V0).cells) (λq u hu=>RdR.cell a2 om hu) ?_;refine ρ ?_;refine bsl (Jmw _) ?_;intro w5 b5 ah bo bb;refine ρ ?_;refine cl (Qjd (o.ext ah) (Blk.rowV bb) (BoolsV.nil _ none 0) (Qnj _).1 om) ?_;rintro aq w6 ⟨b2,ar,_⟩;have e:enD vars rs v i k++((rs i).take (j+1)).map (λr=>[r.getD k V0])=(enD vars rs v i k++((rs i).take j).map λr=>[r.getD k V0])++[[((rs i).getD j []).getD k V0]]:=by grind [Qc,List.append_assoc]
    have bj:=Qnk (enD vars rs v i k++((rs i).take j).map λr=>[r.getD k V0]) [((rs i).getD j []).getD k V0];refine ρ ?_;refine Jf (j+1) aq sO ⟨lj,(G.trans ah).trans ar,by rw[e,Qjn];exact b2,by rw[e];omega⟩ om
   have b3:j=(rs i).length:=by have:=oF h;omega
   subst b3;clear h;rw[List.take_length,<-O]at o J;refine ρ ?_;exact Jf (k+1) lv sO ⟨lk,C.trans G,o,om⟩ om
  have ac:k=(vars i).length:=by have:=oF h;omega
  subst ac;clear h;have e:(List.range (i+1)).flatMap (enI vars rs v)=enD vars rs v i (vars i).length:=by grind [enD,List.range_succ,enI]
  refine ρ ?_;refine Jf (i+1) lv sO ⟨Z,a1,by rw[e];exact o,by rw[e];omega⟩ om
 have b6:i=m:=by have:=oF h;omega
 subst b6;clear h;have eR:Uj ((List.range i).flatMap (enI vars rs v))=Ue i vars rs v:=rfl;rw[eR]at o J;obtain⟨TA,tc,rfl,aw,av,ap,a3,ad⟩:=o.parts;refine ρ ?_;refine Jt (fun (k:Nat) (vo:Value)=>[(5,.slice TA (Ue i vars rs v).length tc),(9,vo),(10,.int .i64 (k:Int))])
  (λk vo w'=>k<=(Ue i vars rs v).length/\Ext w2 w'/\Vv w' w2.heap.size vo ((Xc i vars rs v).take k)) (λk _=>(Ue i vars rs v).length-k) 0 (.slice none 0 0) sB
  ⟨Nat.zero_le _,Ext.refl _,Zj _ _ _ _⟩ ?_
 have aj:(Xc i vars rs v).length=(Ue i vars rs v).length:=by simp[Xc]
 rintro k vo w3 ⟨hk,C,ho⟩;refine ρ ?_;refine ci (λh=>?_) (λh=>?_)
 .have lk:k<(Ue i vars rs v).length:=by have:=oT h;omega
  clear h;obtain⟨xv,a8,a4⟩:=ad k lk;obtain⟨x,hx⟩:=Jrh (getD_mem' [] _ lk);rw[hx]at a4;obtain⟨XA,xc,rfl,ag,af,a2⟩:=id (a4.ext C);refine ρ ?_;refine ix k (a3.ext C) lk ?_;refine ρ ?_;refine ld ((a3.ext C).cell a8) ?_;refine ρ ?_;refine ixq 3 0 a2 (by simp) ?_;refine ρ ?_;refine lds (cs:=x.cells) (λq u hu=>RdR.cell (r:=[x]) a2 (i:=0) (by simp) hu) ?_;refine ρ ?_;refine bsl (Xwj x) ?_;intro w4 b4 G bp a7;have bn:((Xc i vars rs v).take k).length=k:=by rw[List.length_take];omega
  refine ρ ?_;refine apb (m':=1) (news:=x.cells) EVv (Jk ho G) (a7.rd (n:=1) rfl) (V.one _) (by unfold maxLen;omega) om (C.trans G).size ?_;intro v5 w5 ay b7 bm;have e:(Xc i vars rs v).take (k+1)=(Xc i vars rs v).take k++[x]:=by
   rw[Qc V0 om];grind [Xc,V0,Ue,List.getD,List.getElem?_eq_getElem,lk]
  refine ρ ?_;refine Jf (k+1) v5 sO ⟨lk,Qg (C.trans G) b7 (Kf (Jk ho G)),?_⟩ om;rw[Vv,e,List.length_append,rowC_app',rowC_one''];exact ay
 have ac:k=(Ue i vars rs v).length:=by have:=oF h;omega
 rw[ac,<-aj,List.take_length]at ho;obtain⟨A3,c3,rfl,b8,_⟩:=Jy ho;refine ρ ?_;exact Jj ⟨⟨⟨A3,c3,rfl,b8,om,Rd.own ho⟩,om⟩,(aa.trans a9).trans C⟩
end
end Go.Proofs.YtbcdghbonlifdaaGreatDoor
