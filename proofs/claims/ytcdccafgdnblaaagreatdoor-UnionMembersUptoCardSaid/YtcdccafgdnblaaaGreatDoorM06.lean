/- Part 6. -/
import Derived.Test.YtcdccafgdnblaaaGreatDoorM05
set_option linter.unusedVariables false
set_option maxRecDepth 100000
set_option maxHeartbeats 40000000
namespace Go.Proofs.YtcdccafgdnblaaaGreatDoor
open Go.RowKit Pl Go.Wk
attribute [local irreducible] WC WL QX WD WDB WP WN WG
def Yj(n:Nat)(pf:Nat->Int)(T:Nat->Row->Nat)(ats:List Atm): Nat:=if ats.any (λa=>a.rows.isEmpty) then 0 else Jf n λv=>if pf v = -1 then T v [] else 1
theorem Qnm{n k:Nat}{g:Nat->Nat}(hk:k<n)(h:g k=0): Jf n g=0:=by
 rcases Nat.eq_zero_or_pos (Jf n g) with h'|h'
 .exact h'
 have:=prodR_pos.1 h' k hk;omega
theorem Jqg{S:Nat}(hS:1<=S): ∀ {n:Nat} {g:Nat->Nat},(∀ c,c<n->g c<=S)->Jf n g<=S^n
 | 0,_,_=>nR _
 | n+1,g,h=>by
  rw[Jf,Nat.pow_succ];exact Nat.mul_le_mul (Jqg hS λc hc=>h c om) (h n om)
theorem Qgs{B0 n f b cb cv ct:Nat}{kf:Nat->Nat}{pf:Nat->Int}{R:Nat->List Row}{vR Dv Pv Av Kv:Value}{BA VA TA:Option Addr}{wF w:World}{va ta:List Value}{T:Nat->Row->Nat}{ats:List Atm}{AR:Nat->Prop}(hF:FixW B0 n f kf pf R vR BA wF)(hW:BldW wF b n (bCs n f Dv Pv Av BA cb vR VA cv TA ct Kv) VA cv TA ct w va ta)(hAv:GV 3 AtG wF Av ats)(hpf:∀ c,c<n->pf c = -1∨∃ p:Nat,pf c=p)(hdv:∀ c,c<n->f<=c->DnV AR (T c) w (va.getD c (.map none)))(hdt:∀ c,c<n->c<f->DnT AR (T c) w (ta.getD c (.map none)))(hroot:∀ c,c<n->pf c = -1->f<=c->∀ k,0<T c k->k=[])(hT1:∀ c,f<=c->∀ k,T c k<=1)(hTb:∀ c k,T c k<=4294967296^20):
  Ret Tryz.prog 36 [.pointer (some ⟨b,0,none⟩)] w λu w'=>NatV w' u (Yj n pf T ats)/\Fresh w u/\Ext w w':=by
 have ae:Fresh w (.slice none 0 0):=λad m c e=>by cases e
 obtain⟨a6,hB,b1,bi⟩:=hW;have bn:=hF.n32;obtain⟨AA,ac,c3,rfl,c2,c1,bj,bl⟩:=hAv.parts;refine enE Tryz.func36 Tryz.ntmps36 ?_;refine ldR (hB.at (i:=4) rfl) ?_;refine ρ ?_;refine Qr (fun (i:Nat)=>[(0,.pointer (some ⟨b,0,none⟩)),(2,.slice none 0 0),(12,.slice AA ats.length ac),(13,.int .i64 (ats.length:Int)),(14,.int .i64 (i:Int))])
  (λi w'=>i<=ats.length/\Ext w w'/\∀ j (hj:j<ats.length),j<i->ats[j].rows≠[]) (λi=>ats.length-i) 0 sB ⟨Nat.zero_le _,Ext.refl _,λj hj h=>om⟩ ?_
 rintro i w1 ⟨hi,a1,aw⟩;refine ciR (λh=>?_) (λh=>?_)
 .have li:i<ats.length:=by have:=oT h;omega
  clear h;have O:=a6.trans a1;obtain⟨ce,bz,⟨⟨t1,t2,t3⟩,rfl,b7⟩,ak⟩:=bl i li;obtain⟨⟨PA,pc,ba,bq,bp,bo⟩,b9,a9⟩:=id b7;simp only at ba b9;obtain⟨a4,PG,a5,bm,b8,_⟩:=id a9;simp only at b8 bm;subst ba;subst b9;subst b8;have ab:∀ j u,([.slice PA ats[i].vars.length pc,.int .i64 (ats[i].ar:Int),.slice PG a4.length a5]:List Value)[j]?=some u->w1.cell? ((adr AA (i*3)).add j)=some u:=λj u hu=>Ga O (ak j u hu);refine Qs 3 i (bj.ext O) li ?_;refine Ja (cs:=[.slice PA ats[i].vars.length pc,.int .i64 (ats[i].ar:Int),.slice PG a4.length a5]) ab ?_;refine Jv Yp ?_;intro w2 bb a8 am an;refine Qb (cs':=[.slice PA ats[i].vars.length pc,.int .i64 (ats[i].ar:Int),.slice PG a4.length a5]) an ?_ (Ku rfl);intro w3 b5 bw J;have Z:Ext w1 w3:=J w1 a8 am;refine Ja (cs:=[.int .i64 (ats[i].ar:Int),.slice PG a4.length a5]) (λj u hu=>b5.sub (i:=1) (j:=j) (by rw[Nat.add_comm];exact hu)) ?_;refine clR (Jwr (b7.ext (O.trans Z)).rel) ?_
  rintro u w4 ⟨rfl,a7⟩;refine ciR (λh=>?_) (λh=>?_)
  .have h0:ats[i].rows.length=0:=by have:=Zf h;omega
   refine ρ ?_;refine Jq ⟨?_,ae,(a1.trans Z).trans a7⟩;grind [Yj,List.any_eq_true.2,List.getElem_mem,List.isEmpty_iff,List.eq_nil_of_length_eq_zero,NatV.nil]
  have h0:ats[i].rows.length≠0:=λe=>by have:=Zk h;omega
  refine ρ ?_;refine Qn (i+1) sO ⟨li,(a1.trans Z).trans a7,λj hj br=>?_⟩ om;grind
 have bg:i=ats.length:=by grind
 clear h;have ag:ats.any (λa=>a.rows.isEmpty)=false:=by grind [List.any_eq_false,List.getElem_of_mem,List.isEmpty_iff.1]
 have ah:Yj n pf T ats=Jf n λv=>if pf v = -1 then T v [] else 1:=by unfold Yj;rw[ag];rfl
 rw[ah];clear ah ag aw bg;obtain⟨g,hg⟩:∃ g:Nat->Nat,g=λv=>if pf v = -1 then T v [] else 1:=⟨_,rfl⟩
 rw[<-hg];have ax:∀ v,g v<=4294967296^20:=λv=>by grind
 have be:∀ k,k<=n->Nb (Jf k g):=λk hk=>Nb.pow (k:=k) (Jqg (Nat.pow_pos (by decide)) λc _=>ax c) om;have bh:∀ v,Nb (g v):=λv=>Nb.pow (k:=1) (by rw[Nat.pow_one];exact ax v) om;refine clR (Kw 1 (by decide) _) ?_;rintro vp w2 ⟨av,az,a8⟩;have a2:=a1.trans a8;refine ldR ((hB.ext a2).at (i:=5) rfl) ?_;refine ρ ?_;refine Qh (fun (k:Nat) (vp:Value)=>[(0,.pointer (some ⟨b,0,none⟩)),(2,.slice none 0 0),(5,vp),(27,.slice BA n cb),(28,.int .i64 (n:Int)),(29,.int .i64 (k:Int))])
  (λk vp w'=>k<=n/\Ext w w'/\NatV w' vp (Jf k g)/\Fresh w vp) (λk _=>n-k) 0 vp sB ⟨Nat.zero_le _,a2,av,λad m c e=>nL a1.size (az ad m c e)⟩ ?_
 clear az av a2 a8 vp w2;rintro k vp w3 ⟨hk,J,a3,aj⟩;refine ciR (λh=>?_) (λh=>?_)
 .have lk:k<n:=by have:=oT h;omega
  clear h;have aa:∀ j u,(Qo kf pf k)[j]?=some u->w3.cell? ((adr BA (k*3)).add j)=some u:=λj u hu=>by
   have hj:j<3:=by grind [Nat.lt_or_ge,List.getElem?_eq_none,Qo]
   rw[Xx];exact(hF.bags.ext (a6.trans J)).cell ((Yk (sz:=3) (λ_ _=>rfl) lk hj).trans hu)
  refine Qs 3 k (hF.bags.ext (a6.trans J)) lk ?_;refine Ja (cs:=Qo kf pf k) aa ?_;refine Jv Jkx ?_;intro w4 bb a7 am an;refine Qb (cs':=Qo kf pf k) an ?_ Jzh;intro w5 b4 bs bc;have D:Ext w3 w5:=bc w3 a7 am;have C:=J.trans D;refine ldR (b4.at (i:=2) rfl) ?_;refine ciR (λh=>?_) (λh=>?_)
  .have aw:pf k≠-1:=by have:=oT h;omega
   refine ρ ?_;refine Qk (k+1) vp sO ⟨lk,C,?_,aj⟩ om;have e:Jf (k+1) g=Jf k g:=by rw[Jf,hg];grind
   rw[e];exact a3.ext D
  have hp:pf k = -1:=by grind
  have ao:g k=T k []:=by grind
  have b6:=hB.ext C;refine ldR (b6.at (i:=1) rfl) ?_;refine ciR (λh=>?_) (λh=>?_)
  .have lf:k<f:=by have:=oT h;omega
   obtain⟨mb,m,fm,e1,e2,⟨e3,e4⟩,e5⟩:=hdt k lk lf;have ai:ta[k]?=some (.map (some mb)):=by grind
   have ap:Ext w5 w5.drew:=(Ext.refl w5).drew;have o:=C.trans ap;have b3:=(Rd.own bi).ext o;have af:FitR []:=⟨by simp,λv hv=>by cases hv⟩;refine drR (scq 12 [8,10]) ?_;refine Jz ((hB.ext o).at (i:=8) rfl) ?_;refine Jg k b3 lk ?_;refine Jz (b3.cell ai) ?_;refine Jh (Jzz (r:=[]) (A:=none) (c:=0) (hF.tb.ext (a6.trans o)) Rd.nil (λu hu=>by cases hu) (by have:=af.len;omega) (by simp)) ?_;rintro un w6 ⟨rfl,G⟩;refine⟨G,?_⟩;refine ρd ?_;refine dmlk KS (e3.ext (o.trans G)) Jkw (Kc af) ?_;have au:NatV w6 ((fm (.string (idn []))).getD (.slice none 0 0)) (g k):=by
    rw[ao];rcases e5 []with⟨h6,h7⟩|⟨y,h6,h7,h8⟩
    .rw[h6,h7];exact NatV.nil _
    rw[h6];exact h8.1.ext (o.trans G)
   refine Jh (Jzq (a3.ext ((D.trans ap).trans G)) au (be k hk).len (bh k).len) ?_;rintro vr w7 ⟨bd,ay,aq⟩;refine⟨aq,?_⟩;refine ρd ?_;refine ρ ?_;exact Qk (k+1) vr sO ⟨lk,(o.trans G).trans aq,bd,λad m c e=>nL (o.trans G).size (ay ad m c e)⟩ om
  have lf:f<=k:=by have:=oF h;omega
  obtain⟨mb,m,fm,e1,e2,⟨e3,e4⟩,e5,e6⟩:=hdv k lk lf;have ai:va[k]?=some (.map (some mb)):=by
   rw[<-e1];have hl:=b1.1;simp[List.getD,List.getElem?_eq_getElem (show k<va.length by omega)]
  have b2:=(Rd.own b1).ext C;refine ldR (b6.at (i:=7) rfl) ?_;refine ixR k b2 lk ?_;refine ldR (b2.cell ai) ?_;refine ρ ?_;refine mln KS (e3.ext C) ?_;intro q hq;refine ciR (λh=>?_) (λh=>?_)
  .have h0:q=0:=by have:=Zf h;omega
   have h1:=hq.1 h0 (.string (idn []));rw[e5]at h1;have h2:T k []=0:=by
    rcases Nat.eq_zero_or_pos (T k []) with h'|h'
    .exact h'
    rw[if_pos h']at h1;cases h1
   refine ρ ?_;refine Jq ⟨?_,ae,C⟩;rw[Qnm lk (by rw[ao,h2])];exact NatV.nil _
  have h0:¬ q=0:=λe=>by have:=Zk h;omega
  have h1:0<T k []:=by
   refine Classical.byContradiction λh'=>h0 (hq.2 λkl=>?_);cases hfk:fm kl with
   | none=>rfl
   | some x=>
    obtain⟨r,rfl⟩:=e6 kl (by rw[hfk];simp);rw[e5]at hfk;split at hfk
    .rename_i hr;rw[hroot k lk hp lf r hr]at hr;exact absurd hr h'
    cases hfk
  refine ρ ?_;refine Qk (k+1) vp sO ⟨lk,C,?_,aj⟩ om;have h2:=hT1 k lf [];have e:Jf (k+1) g=Jf k g:=by rw[Jf,ao,show T k []=1 by omega,Nat.mul_one]
  rw[e];exact a3.ext D
 have bf:k=n:=by have:=oF h;omega
 rw[bf]at a3;refine ρ ?_;exact Jq ⟨a3,aj,J⟩
open Go.RowKit Pl Go.Wk _root_.Go.Proofs.Tryz
variable {d:Bool}{bs:List BkT}{bvs cs:List Value}{M N:Nat->Prop}{A BA DA KA:Option Addr}{bv tv x:Value}{w:World}
theorem DnB.old{N N':Nat->Prop}{d:Bool}{w:World}{x:Value}{bs:List BkT}(h:DnB N d w x bs)(hs:∀ k,N' k->N k∨w.heap.size<=k): DnB N' d w x bs:=by
 obtain⟨ps,A,c,O,J,G,D,j,C,i⟩:=h;refine⟨ps,A,c,O,J,G,D,j,λh0 ad e u=>?_,λp hp=>⟨(i p hp).1,(i p hp).2.old hs⟩⟩;rcases hs _ u with h'|h'
 .exact C h0 ad e h'
 have o:0<(Jd ps).length:=by rw[Jmr λp hp=>(i p hp).1];omega
 obtain⟨Z,e',hb,_⟩:=j.2 o;grind
theorem DnB.ext{N:Nat->Prop}{d:Bool}{w w':World}{x:Value}{bs:List BkT}(h:DnB N d w x bs)(hx:Ext w w'): DnB N d w' x bs:=h.gr (GrN.ext hx)
theorem DnB.nil(N:Nat->Prop)(d:Bool)(w:World): DnB N d w (.slice none 0 0) []:=⟨[],none,0,rfl,rfl,Nat.le_refl _,by simp,Rd.nil,λh=>absurd h (by simp),λp hp=>by cases hp⟩
theorem Xwk(w:World): (Instr.buildSlice 41 0 #[]).run prog w=.ok (.slice (some ⟨w.heap.size,0,none⟩) 0 0) (w.alloc (.cells ([]:List Value).toArray 135)):=kr
theorem Qvw{n c:Nat}(hr:Rd w 3 A n cs)(h1:∀ u∈cs,u.oneCell'=true)(hb:n*24<=140737488355328):
  Ret prog 76 [.slice A n c] w λv w'=>(∃ A' c',v=.slice A' n c'/\n<=c'/\Rd w' 3 A' n cs/\∀ ad,A'=some ad->w.heap.size<=ad.block)/\Ext w w':=by
 refine enE func76 ntmps76 ?_;refine ρ ?_;refine Kq ?_;refine ciR (λh=>?_) (λh=>?_)
 .have O:A=none:=by simpa using h
  subst O;have hn:n=0:=by
   rcases Nat.eq_zero_or_pos n with h0|h0
   .exact h0
   obtain⟨ad,Z,_⟩:=hr.isome h0 om;cases Z
  subst hn;refine ρ ?_;exact Jq ⟨⟨none,0,rfl,Nat.le_refl _,hr,λad e=>by cases e⟩,Ext.refl w⟩
 refine Xq Xwk ?_;intro w1 b j G D;refine ρ ?_;refine apo j EBg (D.own (n:=0) G rfl (Nat.zero_le _)) (hr.ext j) h1 (by unfold maxLen;omega) om ?_;intro v2 w2 i C _ _;obtain⟨A2,c2,rfl,o,J⟩:=Jy i;refine ρ ?_;rw[Nat.zero_add]at i o ⊢;exact Jq ⟨⟨A2,c2,rfl,o,Rd.own i,λad e=>by subst e;exact(J ad.block rfl).1⟩,C⟩
theorem Qkt(n:Nat)(kf:Nat->Nat)(pf:Nat->Int): ∀ u∈Qf n (Qo kf pf),u.oneCell'=true:=λu j=>by
 obtain⟨i,_,h⟩:=List.mem_flatMap.1 j;exact Jzh u h
theorem Xzf(h:DnB N d w x bs)(hN:∀ k,N k->k<w.heap.size):
  Ret prog 77 [x] w λu w'=>DnB N d w' u bs/\Ext w w':=by
 obtain⟨ps,A,c,rfl,rfl,hc,hl,hR,hA,am⟩:=h;refine enE func77 ntmps77 ?_;refine ρ ?_;refine Qh (fun (i:Nat) (vl:Value)=>[(3,vl),(6,.slice A ps.length c),(7,.int .i64 (ps.length:Int)),(8,.int .i64 (i:Int))])
  (λi vl w'=>i<=ps.length/\Ext w w'/\∃ o:List (List Value×BkT),w'.ownsRow w.heap.size 154 3 vl o.length (Jd o)/\o.map (·.2)=(ps.map (·.2)).take i/\∀ q∈o,q.1.length=3/\BkE d (λk=>N k∨vl.ownBlock=some k) w' q.1 q.2) (λi _=>ps.length-i) 0 (.slice none 0 0) sB
  ⟨Nat.zero_le _,Ext.refl _,[],Zd _ _ _ _,rfl,λq hq=>by cases hq⟩ ?_
 rintro i vl w1 ⟨hi,a2,o,ae,a7,a6⟩;obtain⟨LA,lc,rfl,ay,J⟩:=Jy ae;have ba:o.length=i:=by have:=congrArg List.length a7;rw[List.length_map,List.length_take,List.length_map]at this;omega
 refine ciR (λh=>?_) (λh=>?_)
 .have li:i<ps.length:=by have:=oT h;omega
  clear h;obtain⟨z,hz⟩:∃ z,z=ps[i]:=⟨_,rfl⟩;have ar:z∈ps:=by rw[hz];exact List.getElem_mem li
  obtain⟨b9,ai⟩:=am z ar;have a4:∀ j u,z.1[j]?=some u->w1.cell? ((adr A (i*3)).add j)=some u:=λj u hu=>by
   have hj:j<3:=by have:=(List.getElem?_eq_some_iff.1 hu).1;omega
   rw[Xx];refine(hR.ext a2).cell ?_;rw[Kd (p:=z) (λp hp=>(am p hp).1) (by rw[hz];exact gE li) hj];exact hu
  obtain⟨kv,zq,ap,ab,aa⟩:=id ai;obtain⟨zp,rfl⟩:=aa.ptr;obtain⟨zc,zk,zt⟩:=z;simp only at ap ab aa a4 ai;subst ap;obtain⟨aq,ag,rfl,b7,b6,b8,_⟩:=id ab;refine Qs 3 i (hR.ext a2) li ?_;refine Ja (cs:=[.slice aq zk.length ag,.bool d,.pointer zp]) a4 ?_;refine Jv Jfk ?_;intro w2 bb av b1 b2;refine Qb (cs':=[.slice aq zk.length ag,.bool d,.pointer zp]) b2 ?_ (Jcf rfl);intro w3 ao bc au;have a1:Ext w1 w3:=au w1 av b1;have a5:Ext w3 w3.drew:=(Ext.refl w3).drew;have a8:=a2.trans (a1.trans a5);have a9:=ao.ext a5;have an:¬ (Value.slice LA o.length lc).ownBlock=some bb:=λe=>by have:=(J bb e).2;omega
  refine ρ ?_;refine drN (λk=>(Value.slice LA o.length lc).ownBlock=some k) 10 [(0,0),(0,1),(0,2),(0,4),(0,5),(1,3),(0,6),(1,7),(1,8),(0,9)] kr ?_;refine ρn ?_;refine nld (Jt (a9.at (i:=0) rfl) an) ?_;refine ρn ?_;refine Xn (cs:=[.bool d,.pointer zp]) (λw' hg j u hu=>Jt (a9.sub (i:=1) (j:=j) (by rw[Nat.add_comm];exact hu)) (by rw[Uy];exact an) w' hg) ?_;refine ρn ?_;refine nop ?_;refine cl (Jkm (r:=zk) (ab.v.ext a8) (λk=>N k∨(Value.slice LA o.length lc).ownBlock=some k) λk O=>?_) ?_
  .rcases O with Z|Z
   .exact nM (hN k Z) a8.size
   exact nM (J k Z).2 (a1.trans a5).size
  rintro kv w4 ⟨ak,aj⟩;obtain⟨D,C,rfl,_⟩:=id ak;refine ρ ?_;refine Js (GrN.ext aj) ?_;refine ρn ?_;refine Io (Qyv _ D _ C d zp rfl) ?_;refine ρn ?_;refine nop ?_;refine bsl (Qym _ D _ C d zp rfl) ?_;intro w5 b5 ac bd b3;refine ρ ?_;refine Js (GrN.ext ac) ?_;refine ρn ?_;refine nop ?_;have G:Ext w1 w5:=((a1.trans a5).trans aj).trans ac;have a3:=a2.trans G;refine apb (m':=1) (news:=[.slice D zk.length C,.bool d,.pointer zp]) EBk (Jk ae G) (b3.rd (n:=1) rfl) (Jcf rfl) (by unfold maxLen;omega) om a3.size ?_;intro v6 w6 aw af ax;have b4:∀ g,(Value.slice LA o.length lc).ownBlock=some g->g<w5.heap.size:=λg eg=>nM (J g eg).2 G.size;refine ρ ?_;refine Js (GrN.by af λg eg=>eg) ?_;refine ρn ?_;refine ρ ?_;have key:∀ p:List Value×BkT,BkE d (λk=>N k∨(Value.slice LA o.length lc).ownBlock=some k) w5 p.1 p.2->BkE d (λk=>N k∨v6.ownBlock=some k) w6 p.1 p.2:=λp h1=>by
   have h2:BkE d (λk=>(N k∨(Value.slice LA o.length lc).ownBlock=some k)∨v6.ownBlock=some k) w5 p.1 p.2:=h1.old λk O=>by
    rcases O with Z|Z
    .exact .inl Z
    rcases ax k Z with h''|h''
    .exact .inl (.inr h'')
    exact .inr h''
   exact(h2.gr (GrN.by af λk O=>.inl (.inr O))).old λk O=>.inl (O.elim (λZ=>.inl (.inl Z)) .inr)
  have ah:TrV (λk=>N k∨(Value.slice LA o.length lc).ownBlock=some k) w5 zt (.pointer zp):=by
   refine TrV.ext (TrV.old ?_ aa) a3;intro k O;rcases O with Z|Z
   .exact .inl Z
   exact .inr (J k Z).1
  refine Qk (i+1) v6 sO ⟨li,Qt a3 af (λg eg=>(J g eg).1),o++[([.slice D zk.length C,.bool d,.pointer zp],(zk,zt))],?_,?_,λq hq=>?_⟩ om
  .rw[List.length_append,List.length_singleton];have e:Jd (o++[([.slice D zk.length C,.bool d,.pointer zp],(zk,zt))])=Jd o++[.slice D zk.length C,.bool d,.pointer zp]:=by simp[Jd]
   rw[e];exact aw
  .rw[List.map_append,a7,List.take_succ_eq_append_getElem (by rw[List.length_map];exact li),List.getElem_map,<-hz];rfl
  rcases List.mem_append.1 hq with h1|h1
  .exact⟨(a6 q h1).1,key q ((a6 q h1).2.ext G)⟩
  rw[List.mem_singleton.1 h1];exact⟨rfl,key ([.slice D zk.length C,.bool d,.pointer zp],(zk,zt)) ⟨_,_,rfl,ak.ext ac,ah⟩⟩
 have az:i=ps.length:=by have:=oF h;omega
 rw[az,List.take_of_length_le (by rw[List.length_map];exact nR _)]at a7;refine ρ ?_;refine Jq ⟨⟨o,LA,lc,a7.symm,rfl,ay,om,Rd.own ae,λh0 ad e O=>?_,λp hp=>⟨(a6 p hp).1,?_⟩⟩,a2⟩
 .have:=(J ad.block (by rw[e];simp[Value.ownBlock])).1;have:=hN _ O;omega
 exact(a6 p hp).2.old λk O=>.inl (.inl O)
def Zg(bs:List BkT)(k:Row): Option Nat:=bs.findIdx? λb=>decide (b.1=k)
theorem Xjw(bs:List BkT)(b:BkT)(k:Row)(h:b.1 ∉ bs.map (·.1)): Zg (bs++[b]) k=if b.1=k then some bs.length else Zg bs k:=by grind [Zg,List.findIdx?_eq_none_iff,List.mem_map.2]
structure VarQ(N:Nat->Prop)(d:Bool)(w:World)(bv pv:Value)(bs:List BkT): Prop where
 bks:DnB N d w bv bs
 plc:∃ mb m fm,pv=.map (some mb)/\m<=1000000/\(MapS prog 9 w mb m fm/\¬ N mb)/\∀ k:Row,fm (.string (idn k))=(Zg bs k).map λi=>.int .i64 (i:Int)
theorem VarQ.gr{N:Nat->Prop}{d:Bool}{w w':World}{bv pv:Value}{bs:List BkT}(h:VarQ N d w bv pv bs)(hg:GrN N w w'): VarQ N d w' bv pv bs:=by
 refine⟨h.bks.gr hg,?_⟩;obtain⟨j,m,fm,D,C,⟨u,i⟩,o⟩:=h.plc;exact⟨j,m,fm,D,C,⟨u.gr hg i,i⟩,o⟩
theorem VarQ.none{pv:Value}(h:VarQ N d w bv pv bs): VarQ (λ_=>False) d w bv pv bs:=by
 refine⟨h.bks.old λk i=>i.elim,?_⟩;obtain⟨j,m,fm,G,D,⟨C,u⟩,o⟩:=h.plc;grind
structure IxV(w:World)(x:Value)(f:Nat)(ds:List Bool)(kf:Nat->Nat)(pf:Nat->Int)(BB:Nat->List BkT)(tot:Nat): Prop where
 ex:∃ DA dc BA cb KA ck PA cp tv kvs pvs,x=.agg #[.slice DA f dc,.slice BA f cb,.slice KA f ck,.slice PA f cp,tv]/\f<=dc/\f<=cb/\RdB w DA ds/\Rd w 3 BA f (Qf f (Qo kf pf))/\Rd w 1 KA f kvs/\Rd w 1 PA f pvs/\NatV w tv tot /\
  ∀ v,v<f->VarQ (λ_=>False) (ds.getD v false) w (kvs.getD v (.slice none 0 0)) (pvs.getD v (.map none)) (BB v)
 dl:ds.length=f
 f32:f<=32
theorem IxV.ext{w w':World}{x:Value}{f:Nat}{ds:List Bool}{kf:Nat->Nat}{pf:Nat->Int}{BB:Nat->List BkT}{tot:Nat}(h:IxV w x f ds kf pf BB tot)(hx:Ext w w'): IxV w' x f ds kf pf BB tot:=by
 obtain⟨DA,dc,BA,cb,KA,ck,PA,cp,o,j,i,h1,h2,h3,Z,O,J,G,D,C⟩:=h.ex;exact⟨⟨DA,dc,BA,cb,KA,ck,PA,cp,o,j,i,h1,h2,h3,Rd.ext Z hx,O.ext hx,J.ext hx,G.ext hx,D.ext hx,λv u=>(C v u).gr (GrN.ext hx)⟩,h.dl,h.f32⟩
theorem Ih: Qa prog 45=some (.agg #[.slice none 0 0,.slice none 0 0,.slice none 0 0,.slice none 0 0,.slice none 0 0]):=kr
theorem Xvh(A B C:Option Addr)(a b c a' b' c':Nat)(w:World): (Instr.build 45 #[(0,.slice A a a'),(1,.slice B b b'),(4,.slice C c c')]).run prog w=.ok (.agg #[.slice A a a',.slice B b b',.slice none 0 0,.slice none 0 0,.slice C c c']) w:=kr
theorem Jlb{B C D E:Option Addr}{a b c d e a' b' c' d' e':Nat}: ∀ u∈[Value.slice A a a',.slice B b b',.slice C c c',.slice D d d',.slice E e e'],u.oneCell'=true:=λu i=>by
 simp only[List.mem_cons,List.not_mem_nil,or_false]at i;rcases i with rfl|rfl|rfl|rfl|rfl<;>rfl
theorem EBks: ElT prog 42 149 1 24 (.slice none 0 0):=⟨underlying42,info_parts kr,rfl,by decide⟩
theorem EPls: ElT prog 43 163 1 8 (.map none):=⟨underlying43,info_parts kr,rfl,by decide⟩
theorem Gx(z:Value)(h:z.cells = #[z])(n:Nat): (madeCells z.cells (n*1)).toList=List.replicate n z:=by rw[Nat.mul_one,h];exact Gz _ _
theorem Xym{B0 f dc cb ck tot:Nat}{ds:List Bool}{kf:Nat->Nat}{pf:Nat->Int}{BB:Nat->List BkT}(hTB:TB B0 w)(hdl:ds.length=f)(f32:f<=32)(hD:RdB w DA ds)(hBg:Rd w 3 BA f (Qf f (Qo kf pf)))(hK:Rd w 1 KA f bvs)(hel:∀ v,v<f->DnB M (ds.getD v false) w (bvs.getD v (.slice none 0 0)) (BB v))(htv:NatX M w tv tot)(hM:∀ k,M k->k<w.heap.size)(hfit:∀ v,v<f->∀ b∈BB v,FitR b.1)(hlt:∀ v,v<f->Lt [] ((BB v).map (·.1))):
  Ret prog 37 [.slice DA f dc,.slice BA f cb,.slice KA f ck,tv] w λu w'=>Off M w' (λW=>IxV W u f ds kf pf BB tot)/\IxV w' u f ds kf pf BB tot/\Ext w w':=by
 obtain⟨TA,tc,rfl,g1⟩:=id htv.1;have fi:Rd w 1 DA f (ds.map Value.bool):=hdl ▸ hD;refine enE func37 ntmps37 ?_;refine Jv Ih ?_;intro w1 b8 ao e3 dd;refine clR (Jnr (fi.ext ao) (λu hu=>by obtain⟨b,_,rfl⟩:=List.mem_map.1 hu;rfl) om) ?_;rintro _ w2 ⟨⟨bo,c6,rfl,dx,bj,f9⟩,an⟩;refine clR (Qvw ((hBg.ext ao).ext an) (Qkt _ _ _) om) ?_;rintro _ w3 ⟨⟨bp,c7,rfl,dz,cv,fa⟩,am⟩;refine Zc (Xvh _ _ _ _ _ _ _ _ _ _) ?_;refine Jv Ih ?_;intro w4 b9 f2 ar fj;refine Qp fj ?_;intro w5 ek g5 f0;have a9:Ext w3 w5:=f0 w3 f2 ar;have ca:Ext w w5:=((ao.trans an).trans am).trans a9;have b2:Ext w5 w5.drew:=(Ext.refl w5).drew;have bl:=ek.ext b2;refine ρ ?_;refine drH (λi=>Nat.beq i 7 || Nat.beq i 9) ?_;refine Zz (fuel':=8) 8 [(0,0),(0,1)] #[true,true,false,false,false,false,false,false,false,false] kr kr rfl ?_;refine ρd ?_
 refine Xw ?_;refine Uk (fuel':=7) 3 kr kr rfl rfl ?_;refine ρp ?_;refine ρd ?_;refine Xw ?_;refine Uk (fuel':=6) 4 kr kr rfl rfl ?_;refine ρp ?_;refine ρd ?_;refine Xw ?_;have g6:w5.drew.heap.size=w5.heap.size:=rfl;refine Jkb 2 (lst 10 8) (fun (y:Option Addr×Option Addr)=>[(24,.slice y.2 f f),(9,.pointer (some ⟨b9,0,none⟩)),(8,.pointer (some ⟨b8,0,none⟩)),(0,.slice DA f dc),(2,.slice KA f ck)])
  (λy W=>GrN (λk=>k=b9) w5.drew W/\Blk W b9 45 [.slice bo f c6,.slice bp f c7,.slice y.1 f f,.slice none 0 0,.slice TA (Jj tot).length tc] /\
   W.ownsRow w5.drew.heap.size 149 1 (.slice y.1 f f) f (List.replicate f (.slice none 0 0))/\W.ownsRow w5.drew.heap.size 163 1 (.slice y.2 f f) f (List.replicate f (.map none))) ?_ ?_
 rotate_left
 .intro rest;refine itwo 2 5 kr rfl rfl rfl ?_ ?_
  .refine mkn EBks f om (by unfold maxLen;omega) ?_;intro w6 D aa ah _;rw[Gx _ rfl]at ah;refine Jw (Iw (λ_=>aa) ?_);refine Uk (fuel':=4) 6 kr kr rfl rfl ?_;refine ρp ?_;refine ρd ?_;refine Xw ?_;refine itwo 5 7 kr rfl rfl rfl ?_ ?_
   .refine mkn EPls f om (by unfold maxLen;omega) ?_;intro w7 G a1 af _;rw[Gx _ rfl]at af;refine Jw (Iw (λ_=>a1) ?_);refine Jvq 7 kr rfl rfl ?_;have a5:=(bl.ext aa).ext a1;refine sto (a5.at (i:=2) rfl) (a5.frozen 2) ?_;refine Jw (Iw (λh=>by cases h) ?_);refine hlist (listed':=lst 10 8) kr ?_;have ab:GrN (λk=>k=b9) w7 (w7.setCell ⟨b9,2,none⟩ (.slice D f f)):=GrN.set _ rfl;refine rest (D,G) _ _ ⟨(GrN.ext (aa.trans a1)).trans ab,a5.set 2 _,Qj (Jk ah a1) ab λg Z e=>?_,Qj (af.mono aa.size) ab λg Z e=>?_⟩ sB
    .rw[e]at Z;exact a5.ne_own (Jk ah a1) rfl Z.symm
    rw[e]at Z;exact a5.ne_own af rfl Z.symm
   have ae:=bl.ext aa;refine sto (ae.at (i:=2) rfl) (ae.frozen 2) ?_;refine Jw (Iw (λh=>by cases h) ?_);refine Jvq 5 kr rfl rfl ?_;have ab:GrN (λk=>k=b9) w6 (w6.setCell ⟨b9,2,none⟩ (.slice D f f)):=GrN.set _ rfl;refine mkn EPls f om (by unfold maxLen;omega) ?_;intro w7 G a1 af _;rw[Gx _ rfl]at af;refine Jw (Iw (λ_=>a1) ?_);refine hlist (listed':=lst 10 8) kr ?_;refine rest (D,G) _ _ ⟨((GrN.ext aa).trans ab).trans (GrN.ext a1),(ae.set 2 _).ext a1,Jk (Qj ah ab λg Z e=>?_) a1,af.mono (nL aa.size ab.size)⟩ sB;rw[e]at Z;exact ae.ne_own ah rfl Z.symm
  refine mkn EPls f om (by unfold maxLen;omega) ?_;intro w6 G aa au _;rw[Gx _ rfl]at au;refine Jw (Iw (λ_=>aa) ?_);refine Jvq 2 kr rfl rfl ?_;refine mkn EBks f om (by unfold maxLen;omega) ?_;intro w7 D a1 aw _;rw[Gx _ rfl]at aw;refine Jw (Iw (λ_=>a1) ?_);refine Uk (fuel':=3) 6 kr kr rfl rfl ?_;refine ρp ?_;refine ρd ?_;refine Xw ?_;refine Jvq 7 kr rfl rfl ?_;have a5:=(bl.ext aa).ext a1;refine sto (a5.at (i:=2) rfl) (a5.frozen 2) ?_;refine Jw (Iw (λh=>by cases h) ?_);refine hlist (listed':=lst 10 8) kr ?_;have ab:GrN (λk=>k=b9) w7 (w7.setCell ⟨b9,2,none⟩ (.slice D f f)):=GrN.set _ rfl;refine rest (D,G) _ _ ⟨(GrN.ext (aa.trans a1)).trans ab,a5.set 2 _,Qj (aw.mono aa.size) ab λg Z e=>?_,Qj (Jk au a1) ab λg Z e=>?_⟩ sB
  .rw[e]at Z;exact a5.ne_own aw rfl Z.symm
  rw[e]at Z;exact a5.ne_own (Jk au a1) rfl Z.symm
 rintro⟨D,G⟩ w6 ⟨ai,ae,ah,au⟩;simp only at ae ah au;refine Uk (fuel':=1) 8 kr kr rfl rfl ?_;refine ρp ?_;refine ρd ?_;refine Xw ?_;refine Jvq 9 kr rfl rfl ?_;refine sto (ae.at (i:=3) rfl) (ae.frozen 3) ?_;refine Jw (Iw (λh=>by cases h) ?_);refine Va kr ?_;obtain⟨w7,bs⟩:∃ w7,w7=w6.setCell ⟨b9,3,none⟩ (.slice G f f):=⟨_,rfl⟩;have ac:GrN (λk=>k=b9) w6 w7:=by rw[bs];exact GrN.set _ rfl
 have a5:Blk w7 b9 45 [.slice bo f c6,.slice bp f c7,.slice D f f,.slice G f f,.slice TA (Jj tot).length tc]:=by rw[bs];exact ae.set 3 _
 have aw:=Qj ah ac λg Z e=>by rw[e]at Z;exact ae.ne_own ah rfl Z.symm
 have af:=Qj au ac λg Z e=>by rw[e]at Z;exact ae.ne_own au rfl Z.symm
 rw[show w6.setCell ((⟨b9,0,none⟩:Addr).add 3) (.slice (D,G).2 f f)=w7 from bs.symm];clear bs;obtain⟨N,bz⟩:∃ N:Nat->Prop,N=λk=>(Value.slice D f f).ownBlock=some k∨(Value.slice G f f).ownBlock=some k:=⟨_,rfl⟩;obtain⟨NB,bg⟩:∃ NB:Nat->Prop,NB=λk=>N k∨k=b8∨M k:=⟨_,rfl⟩;have ag:∀ {W W':World},GrN N W W'->GrN NB W W':=λhg=>hg.mono λk _ o=>by rw[bg];exact .inl o
 have lK:∀ g,(Value.slice D f f).ownBlock=some g->w5.heap.size<=g/\g<w7.heap.size:=(Jy aw).choose_spec.choose_spec.2.2;have lP:∀ g,(Value.slice G f f).ownBlock=some g->w5.heap.size<=g/\g<w7.heap.size:=(Jy af).choose_spec.choose_spec.2.2;have av:∀ k,N k->w5.heap.size<=k/\k<w7.heap.size:=λk o=>by
  rw[bz]at o;exact o.elim (lK k) (lP k)
 have c1:¬ N b9:=λo=>by
  rw[bz]at o;rcases o with h'|h'
  .exact a5.ne_own aw rfl h'.symm
  exact a5.ne_own af rfl h'.symm
 have di:Ext w w7:=by
  have h1:Ext w3 w6:=(ai.old (a9.trans b2) λk o=>by rw[o];exact ar);have h2:Ext w3 w7:=ac.old h1 λk o=>by rw[o];exact ar
  exact((ao.trans an).trans am).trans h2
 have fy:b8<w3.heap.size:=nM dd.lt (an.trans am).size;have en:Blk w7 b8 45 _:=Jb (Jb ((((dd.ext an).ext am).ext (a9.trans b2))) ai λe=>om) ac λe=>by omega
 have fg:Rd w7 1 bo f (ds.map Value.bool):=by
  have h1:Ext w3 w6:=(ai.old (a9.trans b2) λk o=>by rw[o];exact ar);have h2:Ext w3 w7:=ac.old h1 λk o=>by rw[o];exact ar
  exact Rd.ext (Rd.ext bj am) h2
 have ei:Rd w7 3 bp f (Qf f (Qo kf pf)):=by
  have h1:Ext w3 w6:=(ai.old (a9.trans b2) λk o=>by rw[o];exact ar);have h2:Ext w3 w7:=ac.old h1 λk o=>by rw[o];exact ar
  exact Rd.ext cv h2
 have fo:w5.heap.size<=w7.heap.size:=nL ai.size ac.size;have f3:w3.heap.size<=w5.heap.size:=a9.size;refine ρ ?_;refine Xe (fun (v:Nat) (C J:List Value)=>[(8,.pointer (some ⟨b8,0,none⟩)),(9,.pointer (some ⟨b9,0,none⟩)),(2,.slice KA f ck),(28,.int .i64 (f:Int)),(29,.int .i64 (v:Int))])
  (λv C J w'=>v<=f/\GrN N w7 w'/\w'.ownsRow w5.drew.heap.size 149 1 (.slice D f f) f C/\w'.ownsRow w5.drew.heap.size 163 1 (.slice G f f) f J /\
   ∀ u,u<v->VarQ NB (ds.getD u false) w' (C.getD u (.slice none 0 0)) (J.getD u (.map none)) (BB u)) (λv _ _=>f-v) 0 _ _ sB
  ⟨Nat.zero_le _,GrN.refl _ _,aw,af,λu hu=>om⟩ ?_
 rintro v C J w8 ⟨hv,a3,d7,d1,e6⟩;have ay:=Jb a5 a3 c1;have a2:Ext w w8:=a3.old di λk o=>by have:=(av k o).1;have:=ca.size;omega
 refine ciR (λh=>?_) (λh=>?_)
 .have lv:v<f:=by have:=oT h;omega
  clear h;obtain⟨d,hd⟩:∃ d,d=ds.getD v false:=⟨_,rfl⟩;have cg:=hel v lv;rw[<-hd]at cg;have fw:bvs.length=f:=by have:=hK.len;omega
  have g4:C.length=f:=by have:=d7.1;omega
  have g2:J.length=f:=by have:=d1.1;omega
  have d2:∀ k,N k->w.heap.size<=k:=λk o=>nL ca.size (av k o).1;have a8:Ext w8 w8.drew:=(Ext.refl w8).drew;have bm:=ay.ext a8;have cq:=Jk d7 a8;have cj:=Jk d1 a8;have fe:Rd w8.drew 1 KA f bvs:=hK.ext (a2.trans a8);have ea:∀ g,(Value.slice D f f).ownBlock=some g->N g:=λg Z=>by rw[bz];exact .inl Z
  have d3:∀ g,(Value.slice G f f).ownBlock=some g->N g:=λg Z=>by rw[bz];exact .inr Z
  have ch:∀(W:World) (N':Nat->Prop),Ext w W->(∀ k,N' k->(M k∨w.heap.size<=k)/\k<W.heap.size)->Ret prog 77 [bvs.getD v (.slice none 0 0)] W λu w'=>DnB N' d w' u (BB v)/\Ext W w':=λW N' ez eb=>
   Xzf ((((cg.old (N':=λk=>M k∨w.heap.size<=k) λk o=>o)).ext ez).old λk o=>.inl (eb k o).1) λk o=>(eb k o).2
  have b4:∀(W:World) (C:List Value) (u:Value),W.ownsRow w5.drew.heap.size 149 1 (.slice D f f) f C->W.ownsRow w5.drew.heap.size 163 1 (.slice G f f) f J ->
    W.cell? (adr D v)=C[v]?/\W.frozen? (adr D v)=false/\(W.setCell (adr D v) u).ownsRow w5.drew.heap.size 149 1 (.slice D f f) f (C.set v u)/\(W.setCell (adr D v) u).ownsRow w5.drew.heap.size 163 1 (.slice G f f) f J/\GrN N W (W.setCell (adr D v) u):=λW C u ee fc=>by
   obtain⟨s1,s2,s3,s4,s5⟩:=Vz ee (q:=v) om u;exact⟨s1,s2,s3,Za fc ee s5 rfl,GrN.by s5 ea⟩
  refine ρ ?_;refine drM N ?_;refine Zo (fuel':=6) [(0,0),(0,1),(0,2),(0,3),(0,4),(0,5),(0,6),(0,7),(0,8),(0,9)] (lst 16 10) kr kr rfl ?_;refine ρn ?_;refine nld (Jt (bm.at (i:=2) rfl) c1) ?_;refine ρn ?_;refine nld (Jt (bm.at (i:=3) rfl) c1) ?_;refine ρn ?_;refine nix v fe lv ?_;refine ρn ?_;refine nld (v:=bvs.getD v (.slice none 0 0)) (λw' hg=>Ga (hg.old (a2.trans a8) d2) (hK.cell (show bvs[v]?=some (bvs.getD v (.slice none 0 0)) by simp[List.getD,List.getElem?_eq_getElem (show v<bvs.length by omega)]))) ?_;refine ρn ?_;refine Zu ?_;refine Iz 2 (lst 16 14) (fun (y:Value×Nat)=>[(43,.map (some y.2)),(36,.slice G f f),(37,.int .i64 (v:Int)),(10,.int .i64 (v:Int)),(8,.pointer (some ⟨b8,0,none⟩)),(9,.pointer (some ⟨b9,0,none⟩)),(2,.slice KA f ck),(28,.int .i64 (f:Int)),(29,.int .i64 (v:Int))])
   (λy W=>GrN N w8.drew W/\W.ownsRow w5.drew.heap.size 149 1 (.slice D f f) f (C.set v y.1)/\W.ownsRow w5.drew.heap.size 163 1 (.slice G f f) f J/\DnB (λk=>NB k∨k=y.2) d W y.1 (BB v)/\MapS prog 9 W y.2 0 (λ_=>none)/\w8.heap.size<=y.2) ?_ ?_
  rotate_left
  .intro rest;have ax:∀ k,NB k->(M k∨w.heap.size<=k)/\k<w8.heap.size:=λk o=>by
    rw[bg]at o;rcases o with o|o|o
    .exact⟨.inr (d2 k o),Nat.lt_of_lt_of_le (av k o).2 a3.size⟩
    .have:=a3.size;rw[o];exact⟨.inr e3,om⟩
    exact⟨.inl o,Nat.lt_of_lt_of_le (hM k o) a2.size⟩
   have bf:∀ k,N k->k<w8.heap.size:=λk o=>nM (av k o).2 a3.size;refine Yr 10 11 kr rfl rfl rfl ?_ ?_
   .refine cl (ch _ NB (a2.trans a8) ax) ?_;rintro u W1 ⟨c4,a4⟩;have d8:=Jk cq a4;have e8:=Jk cj a4;refine Jw (Ju (GrN.ext a4) ?_);refine Zo (fuel':=4) [(0,12)] #[true,true,true,true,true,true,true,true,true,true,true,false,true,false,false,false] kr kr rfl ?_;refine ρn ?_;refine nix v (Rd.own d8) lv ?_;refine ρn ?_;refine Zu ?_;refine Yr 11 13 kr rfl rfl rfl ?_ ?_
    .refine mkm 9 ?_;intro W2 mb O ap d6;refine Jw (Ju (GrN.ext O) ?_);refine Xp 13 kr rfl rfl ?_;obtain⟨s1,s2,s3,s4,s5⟩:=b4 W2 C u (Jk d8 O) (Jk e8 O);refine sto (s1.trans (show C[v]?=some (C.getD v (.slice none 0 0)) by simp[List.getD,List.getElem?_eq_getElem (show v<C.length by omega)])) s2 ?_ rfl rfl rfl rfl rfl (by obtain⟨_,_,_,_,e,_⟩:=c4;rw[e];rfl);refine Jw (Ju s5 ?_);refine Zw (listed':=lst 16 14) kr ?_;refine rest (u,mb) _ _ ⟨(GrN.ext (a4.trans O)).trans s5,s3,s4,?_,d6.gr s5 λo=>?_,Nat.le_trans a4.size ap⟩ sB
     .exact(((c4.old (N':=λk=>NB k∨k=mb) λk o=>o.imp id λe=>by rw[e];exact ap).ext O).gr ((ag s5).mono λk _ o=>.inl o))
     have h1:=bf _ o;have h2:w8.heap.size<=W1.heap.size:=a4.size;omega
    obtain⟨s1,s2,s3,s4,s5⟩:=b4 W1 C u d8 e8;refine sto (s1.trans (show C[v]?=some (C.getD v (.slice none 0 0)) by simp[List.getD,List.getElem?_eq_getElem (show v<C.length by omega)])) s2 ?_ rfl rfl rfl rfl rfl (by obtain⟨_,_,_,_,e,_⟩:=c4;rw[e];rfl);refine Jw (Ju s5 ?_);refine Xp 11 kr rfl rfl ?_;refine mkm 9 ?_;intro W2 mb O ap d6;refine Jw (Ju (GrN.ext O) ?_);refine Zw (listed':=lst 16 14) kr ?_;refine rest (u,mb) _ _ ⟨((GrN.ext a4).trans s5).trans (GrN.ext O),Jk s3 O,Jk s4 O,?_,d6,Nat.le_trans a4.size (nL s5.size ap)⟩ sB;exact((c4.gr (ag s5)).old (N':=λk=>NB k∨k=mb) λk o=>o.imp id λe=>by rw[e];exact ap).ext O
   refine mkm 9 ?_;intro W1 mb a4 ap ed;refine Jw (Ju (GrN.ext a4) ?_);refine Xp 10 kr rfl rfl ?_;have fq:=ed.lt;have dm:w8.heap.size<=mb:=ap;have g7:w8.heap.size<=W1.heap.size:=a4.size;refine cl (ch _ (λk=>NB k∨k=mb) ((a2.trans a8).trans a4) λk o=>?_) ?_
   .rcases o with o|o
    .have:=ax k o;exact⟨this.1,om⟩
    have:=a2.size;exact⟨.inr om,om⟩
   rintro u W2 ⟨bj,O⟩;have cr:=Jk (Jk cq a4) O;have fd:=Jk (Jk cj a4) O;refine Jw (Ju (GrN.ext O) ?_);refine Zo (fuel':=3) [(0,12)] (lst 16 13) kr kr rfl ?_;refine ρn ?_;refine nix v (Rd.own cr) lv ?_;refine ρn ?_;refine Zu ?_;refine Xp 13 kr rfl rfl ?_;obtain⟨s1,s2,s3,s4,s5⟩:=b4 W2 C u cr fd;refine sto (s1.trans (show C[v]?=some (C.getD v (.slice none 0 0)) by simp[List.getD,List.getElem?_eq_getElem (show v<C.length by omega)])) s2 ?_ rfl rfl rfl rfl rfl (by obtain⟨_,_,_,_,e,_⟩:=bj;rw[e];rfl);refine Jw (Ju s5 ?_);refine Zw (listed':=lst 16 14) kr ?_;refine rest (u,mb) _ _ ⟨(GrN.ext (a4.trans O)).trans s5,s3,s4,bj.gr ((ag s5).mono λk _ o=>.inl o),(ed.ext O).gr s5 λo=>?_,dm⟩ sB;have:=bf _ o;omega
  rintro⟨u,mb⟩ w9 ⟨ba,c2,be,da,d5,dl⟩;simp only at c2 da d5 dl;refine Zo (fuel':=1) [(0,14)] (lst 16 15) kr kr rfl ?_;refine ρn ?_;refine nix v (Rd.own be) lv ?_;refine ρn ?_;refine Zu ?_;refine Xp 15 kr rfl rfl ?_;obtain⟨r1,r2,r3,r4,r5⟩:=Vz be (q:=v) om (.map (some mb));refine sto (r1.trans (show J[v]?=some (J.getD v (.map none)) by simp[List.getD,List.getElem?_eq_getElem (show v<J.length by omega)])) r2 ?_;have b5:=GrN.by r5 d3
  refine Jw (Ju b5 ?_);refine Jzr kr ?_;obtain⟨az,cc⟩:∃ az,az=w9.setCell (adr G v) (.map (some mb)):=⟨_,rfl⟩;rw[<-cc]at r3 r5 b5 ⊢;clear cc;have ax:∀ k,N k->k<w8.heap.size:=λk o=>nM (av k o).2 a3.size;have aj:¬ N mb:=λo=>by have:=ax _ o;omega
  have d4:¬ NB mb:=λo=>by
   rw[bg]at o;rcases o with o|o|o
   .exact aj o
   .have:=a3.size;omega
   have:=hM _ o;have:=a2.size;omega
  have aq:=(GrN.ext (N:=N) a8).trans (ba.trans b5);have bn:=Jb ay aq c1;have bh:=Za c2 be r5 rfl;have eh:=da.gr ((ag b5).mono λk _ o=>.inl o);have cp:=d5.gr b5 aj;have c8:Ext w az:=aq.old a2 d2;have f6:=cp.lt;clear da d5;obtain⟨ps,GA,gc,c5,rfl,f8,dk,d9,ef,c3⟩:=eh;have dt:(C.set v (.slice GA ps.length gc))[v]?=some (.slice GA ps.length gc):=by rw[List.getElem?_set_self om]
  have e0:¬ b9=mb:=λe=>by have:=ay.lt;omega
  have dq:ps.length=(BB v).length:=by rw[c5,List.length_map]
  have fb:=hTB.ext c8;refine ldR (bn.at (i:=2) rfl) ?_;refine ixR v (Rd.own bh) lv ?_;refine ldR ((Rd.own bh).cell dt) ?_;refine ρ ?_;refine Xe (fun (i:Nat) (mc:Nat) (fm:Lit->Option Value)=>[(8,.pointer (some ⟨b8,0,none⟩)),(9,.pointer (some ⟨b9,0,none⟩)),(2,.slice KA f ck),(10,.int .i64 (v:Int)),(28,.int .i64 (f:Int)),(29,.int .i64 (v:Int)),(50,.slice GA ps.length gc),(51,.int .i64 (ps.length:Int)),(52,.int .i64 (i:Int))])
   (λi mc fm w'=>i<=ps.length/\GrN (λk=>k=mb) az w'/\MapS prog 9 w' mb mc fm/\mc<=i/\∀ k:Row,fm (.string (idn k))=(Zg ((BB v).take i) k).map λj=>.int .i64 (j:Int)) (λi _ _=>ps.length-i) 0 0 (λ_=>none) sB
   ⟨Nat.zero_le _,GrN.refl _ _,cp,Nat.le_refl _,λk=>rfl⟩ ?_
  rintro i mc fm ak ⟨hi,a6,co,g3,cz⟩;refine ciR (λh=>?_) (λh=>?_)
  .have li:i<ps.length:=by have:=oT h;omega
   clear h;obtain⟨z,hz⟩:∃ z,z=ps[i]:=⟨_,rfl⟩;have cw:z∈ps:=by rw[hz];exact List.getElem_mem li
   have ey:z.2∈BB v:=by rw[c5];exact List.mem_map_of_mem cw
   have bb:GrN (λk=>NB k∨k=mb) az ak:=a6.mono λk _ o=>.inr o;have bi:=Yq d9 bb λh0 ad e=>ef (by have:=d9.1;omega) ad e;have d0:=(c3 z cw).2.gr bb;have bd:∀ j u,z.1[j]?=some u->ak.cell? ((adr GA (i*3)).add j)=some u:=λj u hu=>by
    have hj:j<3:=by have:=(List.getElem?_eq_some_iff.1 hu).1;have:=(c3 z cw).1;omega
    rw[Xx];refine bi.cell ?_;rw[Kd (p:=z) (λp hp=>(c3 p hp).1) (by rw[hz];exact gE li) hj];exact hu
   obtain⟨kv,zq,fk,ex,ew⟩:=id d0;obtain⟨zp,rfl⟩:=ew.ptr;have bc:=hfit v lv z.2 ey;obtain⟨et,df,rfl,ft,fr,du,_⟩:=id ex;rw[fk]at bd;have cx:Ext w ak:=a6.old c8 λk o=>by rw[o];have:=a2.size;omega
   have db:=Jb bn a6 e0;have e7:=Qj r3 a6 λg Z e=>aj (by rw[<-e];exact d3 g Z);refine Qs 3 i bi li ?_;refine Ja (cs:=[.slice et z.2.1.length df,.bool d,.pointer zp]) bd ?_;refine Jv Jfk ?_;intro g0 g8 dh e4 eo;refine Qb (cs':=[.slice et z.2.1.length df,.bool d,.pointer zp]) eo ?_ (Jcf rfl);intro bq de fu dg;have br:Ext ak bq:=dg ak dh e4;have b1:Ext bq bq.drew:=(Ext.refl bq).drew;have a7:=br.trans b1;have cm:=Rd.own (Jk e7 a7);refine ρ ?_;refine drN (λ_=>False) 10 [(0,0),(0,1),(0,2),(0,3),(0,4),(0,5),(0,6),(0,8),(1,7),(2,9)] kr ?_;refine ρn ?_;refine nld (Jt ((db.ext a7).at (i:=3) rfl) (λe=>e)) ?_;refine ρn ?_;refine nix v cm lv ?_;refine ρn ?_;refine nld (Jt (cm.cell (show(J.set v (.map (some mb)))[v]?=some (.map (some mb)) by rw[List.getElem?_set_self om])) (λe=>e)) ?_;refine ρn ?_;refine nld (Jt ((de.ext b1).at (i:=0) rfl) (λe=>e)) ?_
   refine ρn ?_;refine nop ?_;refine cl (Jzz (r:=z.2.1) (hTB.ext (cx.trans a7)) (du.ext a7) (λu hu=>(bc.2 u hu).1) (by have:=bc.len;omega) (by have:=bc.1;omega)) ?_;rintro un fz ⟨rfl,b3⟩;refine ρ ?_;refine Js (GrN.ext b3) ?_;refine ρn ?_;refine Xa ?_;refine mup KS ((co.ext a7).ext b3) (by unfold maxLen;omega) (Kc bc) ?_;intro eu ec dw;have bw:GrN (λk=>k=mb) ak eu:=(GrN.ext (a7.trans b3)).trans (GrN.by dw λk o=>by injection o with o;exact o.symm);refine ρ ?_;refine Xj (i+1) (mc+1) (upL fm (.string (idn z.2.1)) (some (.int .i64 (i:Int)))) sO ⟨li,a6.trans bw,ec,om,λk=>?_⟩ om;have er:(BB v).take (i+1)=(BB v).take i++[z.2]:=by
    rw[c5,List.take_succ_eq_append_getElem (by rw[List.length_map];exact li),List.getElem_map,hz]
   have f5:z.2.1 ∉ ((BB v).take i).map (·.1):=by
    have h1:=hlt v lv;rw[<-List.take_append_drop (i+1) (BB v),er,List.map_append,List.map_append]at h1;intro hm;have h2:=(List.pairwise_append.1 (List.pairwise_append.1 h1).1).2.2 _ hm z.2.1 (by simp);rw[Ur]at h2;omega
   rw[er,Xjw _ _ _ f5];have dn:((BB v).take i).length=i:=by rw[List.length_take];omega
   by_cases e:z.2.1=k
   .rw[if_pos e,<-e,Kn (KS.key (Kc bc)),dn];rfl
   rw[if_neg e,Uo (λe'=>e (Jdg (by injection e'.symm)))];exact cz k
  have f7:i=ps.length:=by have:=oF h;omega
  clear h;have cy:(BB v).take i=BB v:=by rw[f7,dq,List.take_length]
  rw[cy]at cz;have dv:GrN N w8 ak:=by
   refine((aq.mono λk _ o=>(.inl o:N k∨k=mb)).trans (a6.mono λk _ o=>.inr o)).mono λk o h=>?_;rcases h with h|h
   .exact h
   omega
  have dj:∀ u,u<v->(C.set v (.slice GA ps.length gc)).getD u (.slice none 0 0)=C.getD u (.slice none 0 0)/\(J.set v (.map (some mb))).getD u (.map none)=J.getD u (.map none):=λu hu=>by
   constructor<;>simp[List.getD,List.getElem?_set_ne (show v≠u by omega)]
  have e5:(C.set v (.slice GA ps.length gc)).getD v (.slice none 0 0)=.slice GA ps.length gc/\(J.set v (.map (some mb))).getD v (.map none)=.map (some mb):=by
   constructor
   .rw[List.getD,dt];rfl
   rw[List.getD,List.getElem?_set_self om];rfl
  have ff:DnB (λk=>NB k∨k=mb) d az (.slice GA ps.length gc) (BB v):=⟨ps,GA,gc,c5,rfl,f8,dk,d9,ef,c3⟩;refine ρ ?_;refine Xj (v+1) (C.set v (.slice GA ps.length gc)) (J.set v (.map (some mb))) sO ⟨lv,a3.trans dv,Qj bh a6 λg Z e=>aj (by rw[<-e];exact ea g Z),Qj r3 a6 λg Z e=>aj (by rw[<-e];exact d3 g Z),λu hu=>?_⟩ om;by_cases e:u=v
  .subst e;rw[e5.1,e5.2,<-hd];refine⟨(ff.gr (a6.mono λk _ o=>.inr o)).old λk o=>.inl (.inl o),mb,mc,fm,rfl,om,⟨co,d4⟩,cz⟩
  obtain⟨e1,e2⟩:=dj u om;rw[e1,e2];exact(e6 u om).gr (ag dv)
 have f4:v=f:=by have:=oF h;omega
 clear h;subst f4;refine Jl ay ?_;refine ρ ?_;have e9:¬ N b8:=λo=>by have:=(av _ o).1;omega
 have em:=Jb en a3 e9;refine stW em ?_;intro w9 el ba fn;have b7:GrN (λk=>k=b8) w8 w9:=GrN.by ba λk o=>by injection o with o;exact o.symm
 have c9:Ext w w9:=b7.old a2 λk o=>by rw[o];exact e3
 have fx:b8<w1.heap.size:=dd.lt;have cn:∀ k,NB k->k<w1.heap.size∨w5.heap.size<=k:=λk o=>by
  rw[bg]at o;rcases o with o|o|o
  .exact .inr (av k o).1
  .left;omega
  left;exact nM (hM k o) ao.size
 have ep:∀ W,GrN M w9 W->IxV W (.agg #[.slice bo v c6,.slice bp v c7,.slice D v v,.slice G v v,.slice TA (Jj tot).length tc]) v ds kf pf BB tot:=λW hW=>by
  have b6:GrN (λk=>k=b8∨M k) w8 W:=(b7.mono λk _ o=>.inl o).trans (hW.mono λk _ o=>.inr o);have cd:GrN NB w8 W:=b6.mono λk _ o=>by rw[bg];exact .inr o
  have ce:GrN NB w7 W:=(ag a3).trans cd;have fh:=Yq fg ce λh0 ad e o=>by
   obtain⟨fl,e',hb,_⟩:=bj.2 h0;rw[e]at e';injection e' with e';subst e'
   have h1:=f9 ad e;have h2:w2.heap.size<=w5.heap.size:=(am.trans a9).size;rcases cn _ o with h'|h'<;>omega
  have ej:=Yq ei ce λh0 ad e o=>by
   obtain⟨fl,e',hb,_⟩:=cv.2 h0;rw[e]at e';injection e' with e';subst e'
   have h1:=fa ad e;have h2:=an.size;rcases cn _ o with h'|h'<;>omega
  have fp:w1.heap.size<=w5.heap.size:=(an.trans (am.trans a9)).size;have c2:=Qj d7 b6 λg Z e=>by
   have h1:=(lK g Z).1;rcases e with e|e
   .omega
   have:=hM g e;have:=ao.size;omega
  have be:=Qj d1 b6 λg Z e=>by
   have h1:=(lP g Z).1;rcases e with e|e
   .omega
   have:=hM g e;have:=ao.size;omega
  refine⟨⟨bo,c6,bp,c7,D,v,G,v,_,C,J,rfl,dx,dz,?_,ej,Rd.own c2,Rd.own be,((htv.ext c9).gr hW).1,λu hu=>?_⟩,hdl,f32⟩
  .unfold RdB;rw[hdl];exact fh
  exact((e6 u hu).gr cd).none
 refine ρ ?_;exact Jjj el ⟨λW hW=>ep W hW,ep w9 (GrN.refl _ _),c9⟩
end Go.Proofs.YtcdccafgdnblaaaGreatDoor
namespace Go.Wk
open Go.RowKit
variable {c d e m n t ty:Nat}
theorem nslh{N:Nat->Prop}{P:Program}{al:AL}{w:World}{Q:Exit->Act->World->Prop}{ops:Array Oper}{drest:List (Nat×Oper)}{pos:String}{aft:Array Edge}{tt:TT}[hT:Tab P tt]{x y:Operand}{k:TK}{A:Option Addr}{kd:IntKind}{z:Int}(h:Nat)(kk:WN N P n ops Q drest ((d,.slice A h c)::al) w)(h2:h<=c)(ht:tk tt t=some k:=by rfl)(hk:k.desc=.slice e:=by rfl)(hx:ev al x=some (.slice A m c):=by rfl)(hy:ev al y=some (.int kd z):=by rfl)(hz:z=(h:Int):=by first|rfl|omega)(hd:Nat.blt d n=true:=by rfl):
  WN N P n ops Q ((0,⟨some d,.slice t x none (some y) none,ty,pos,aft,none⟩)::drest) al w:=by
 obtain⟨i,hs⟩:=Kp hT.ok ht hk rfl;refine ny_ (λw' _ a j=>?_) hd kk;have:=Jgv (ty:=ty) (pos:=pos) (aft:=aft) (P:=P) (w:=w') (lo:=none) (hi:=some y) (mx:=none) (l:=0) (h:=h) (q:=c) (dst:=some d) j i hs hx rfl ⟨kd,z,hy,hz⟩ rfl (.inl rfl) (Nat.zero_le _) h2 (nR _);rw[cut0]at this;simpa using this
end Go.Wk
namespace Go.Proofs.YtcdccafgdnblaaaGreatDoor
open Go.RowKit Pl Go.Wk
attribute [local irreducible] WC WL QX WD WDB WP WN WG
variable {ds:List Bool}{l perm:List Nat}{ts:List TA}{B0 c f m n s u v:Nat}{pf:Nat->Int}{vars:Nat->List Nat}{R rs:Nat->List Row}{w:World}
def Gk(e:Nat)(l:List Nat): Nat:=l.foldl (λe v=>e ||| 2^v) e
def Zb(l:List Nat): Nat:=Gk 0 l
theorem Qwh: ∀(l:List Nat) (e u:Nat),(Gk e l).testBit u=true↔e.testBit u=true∨u∈l
 | [],e,u=>by simp[Gk]
 | v::l,e,u=>by
  have:=Qwh l (e ||| 2^v) u;rw[show Gk e (v::l)=Gk (e ||| 2^v) l from rfl,this,Nat.testBit_or,Nat.testBit_two_pow,Bool.or_eq_true,decide_eq_true_eq,List.mem_cons];grind
theorem edgeOf_bit: (Zb l).testBit u=true↔u∈l:=by rw[Zb,Qwh];simp
theorem Jmz(h:∀ v∈l,v<n): Zb l<2^n:=by
 refine Nat.lt_pow_two_of_testBit _ λi hi=>?_;cases hb:(Zb l).testBit i with
 | false=>rfl
 | true=>have:=h i (edgeOf_bit.1 hb);omega
theorem Xxp(e:Nat)(l:List Nat)(v:Nat): Gk e (l++[v])=Gk e l ||| 2^v:=by simp[Gk]
def Zh(m:Nat)(vars:Nat->List Nat): List Nat:=(List.range m).map λi=>Zb (vars i)
structure BldI(n f:Nat)(ds:List Bool)(perm:List Nat)(ts:List TA)(vars:Nat->List Nat)(rs:Nat->List Row): Prop where
 run:RunOk n ts vars rs
 pm:PermOk n f perm
 dl:ds.length=f
 ok:∀ i,i<ts.length->∀ r∈rs i,∀ u∈r,Xm u=true/\Xs u
 cap:∀ kf pf,Jkt n (Zh ts.length vars) (Xb perm f) kf pf->∀ v,v<n->(∀ l:List Row,Lt [] l->(∀ x∈l,∃ z:Row,z.length=n/\x=pmR (bk (kf v ||| 2^v) 32) z/\Ig ts.length vars rs (kf v ||| 2^v) z)->l.length<=65536) /\
  ∀ i,i<ts.length->(rs i).length<=12∨Srt [] ((rs i).map (pmR (Xh (vars i) (kf v ||| 2^v))))
def BldV(w:World)(v:Value)(n f:Nat)(ds:List Bool)(perm:List Nat)(ts:List TA): Prop:=∃ DA dc PA pc AA ac,v=.agg #[.int .i64 (n:Int),.int .i64 (f:Int),.slice DA f dc,.slice PA perm.length pc,.slice AA ts.length ac]/\f<=dc/\RdB w DA ds/\Rd w 1 PA perm.length (Qq (nz perm))/\perm.length<=pc /\
 Rd w 3 AA ts.length (atC ts)/\ts.length<=ac/\∀ p∈ts,AtV w p.1 p.2
theorem BldV.ext{w w':World}{v:Value}{n f:Nat}{ds:List Bool}{perm:List Nat}{ts:List TA}(h:BldV w v n f ds perm ts)(hx:Ext w w'): BldV w' v n f ds perm ts:=by
 obtain⟨DA,O,PA,pc,AA,Z,J,G,D,C,u,o,j,i⟩:=h;exact⟨DA,O,PA,pc,AA,Z,J,G,Rd.ext D hx,C.ext hx,u,o.ext hx,j,λp hp=>(i p hp).ext hx⟩
section
variable {n f:Nat} {ds:List Bool} {perm:List Nat} {ts:List TA} {vars:Nat->List Nat} {rs:Nat->List Row}
theorem BldI.inp(h:BldI n f ds perm ts vars rs){v:Value}(hv:BldV w v n f ds perm ts): InV w v ⟨n,f,ds,nz perm,ts.map (·.2)⟩/\Jxb ⟨n,f,ds,nz perm,ts.map (·.2)⟩:=by
 obtain⟨DA,dc,PA,pc,AA,ac,rfl,h2,h3,h4,Z,O,J,G⟩:=hv;have hn:=h.run.n32;have hm:=h.run.m32;have C:=h.pm.len;have D:=h.pm.fn;have i:=h.dl;subst i;constructor
 .exact⟨_,rfl,_,_,_,rfl,⟨DA,dc,rfl,h2,by simp only;omega,h3⟩,⟨PA,pc,by rw[Qg],by rw[Qg];exact Z,by rw[Qg];omega,by rw[Qg];exact h4⟩,⟨ts,AA,ac,rfl,rfl,J,om,O,G⟩⟩
 refine⟨by simp only;omega,by simp only;omega,by simp only;omega,by simp only;omega,rfl,by grind [Qg],λv hv=>?_,?_,Jgz h.run⟩
 .obtain⟨u,o,rfl⟩:=List.mem_map.1 hv;have:=h.pm.rng u o;simp only;omega
 exact List.Pairwise.map _ (λa b j e=>j om) h.pm.nd
theorem BldI.es(h:BldI n f ds perm ts vars rs): (Zh ts.length vars).length=ts.length/\(∀ i,i<ts.length->∀ u,((Zh ts.length vars).getD i 0).testBit u=true↔u∈vars i)/\∀ e∈Zh ts.length vars,e<2^n:=by
 refine⟨by simp[Zh],λi hi u=>?_,λe j=>?_⟩
 .grind [Zh,Zb,List.getD,edgeOf_bit]
 obtain⟨i,hi,rfl⟩:=List.mem_map.1 j;exact Jmz (h.run.lt i (List.mem_range.1 hi))
theorem BldI.elr(h:BldI n f ds perm ts vars rs){kf:Nat->Nat}(hb:Jkt n (Zh ts.length vars) (Xb perm f) kf pf)(hR:∀ v,v<n->Jfh n ts.length vars rs (kf v ||| 2^v) (R v)): ElR n f ts.length (Zh ts.length vars) perm vars rs kf pf R :=
 ⟨h.pm,h.run.n32,h.run.lt,h.run.len,h.es.1,h.es.2.1,h.es.2.2,hb,hR⟩
theorem Qfl{v:V}(h:Xm v=true): v.bytes.length<=24:=by
 unfold Xm at h;grind
theorem BldI.fit(h:BldI n f ds perm ts vars rs)(hs:s<2^n){z:Row}(hb:Ig ts.length vars rs s z): FitR (pmR (bk s 32) z)/\∀ u∈pmR (bk s 32) z,Xm u=true:=by
 have key:∀ u∈pmR (bk s 32) z,Xm u=true/\Xs u:=λu o=>by
  obtain⟨c,hc,rfl⟩:=List.mem_map.1 o;have C:=(bk_mem.1 hc).2;have D:=Jyk hs C;obtain⟨i,hi,hm⟩:=h.run.cov c D;obtain⟨j,J,e⟩:=List.getElem_of_mem hm;obtain⟨r,G,h1⟩:=hb i hi;have Z:(vars i).getD j 0=c:=by rw[Ql 0 _ J,e]
  have O:=h1 j J (by rw[Z];exact C);rw[Z]at O;rw[<-O];have a1:=h.run.len i hi r G;exact h.ok i hi r G _ (getD_mem' V0 r om)
 exact⟨⟨by grind [Xr,Us],λu o=>⟨(key u o).2,Qfl (key u o).1⟩⟩,λu o=>(key u o).1⟩
end
theorem ElR.sb{es:List Nat}{kf:Nat->Nat}(h:ElR n f m es perm vars rs kf pf R)(hv:v<n): kf v ||| 2^v<2^n:=by
 refine Nat.lt_pow_two_of_testBit _ λi hi=>?_;cases hb:(kf v ||| 2^v).testBit i with
 | false=>rfl
 | true=>
  rw[Nat.testBit_or,Nat.testBit_two_pow,Bool.or_eq_true,decide_eq_true_eq]at hb;rcases hb with hb|hb
  .have:=(h.kbit hv hb).1;omega
  omega
theorem Qbh{kf:Nat->Nat}(h:BldI n f ds perm ts vars rs)(hb:Jkt n (Zh ts.length vars) (Xb perm f) kf pf)(hv:v<n): kf v ||| 2^v<2^n:=by
 refine Nat.lt_pow_two_of_testBit _ λi hi=>?_;cases hbt:(kf v ||| 2^v).testBit i with
 | false=>rfl
 | true=>
  rw[Nat.testBit_or,Nat.testBit_two_pow,Bool.or_eq_true,decide_eq_true_eq]at hbt;rcases hbt with hbt|hbt
  .rw[(hb v hv).2.1]at hbt;have:=Jcq (nb:=nb0 n (Zh ts.length vars)) (ord:=Xb perm f) (N:=n) (λa b j=>(Jzp h.es.2.2 j).2.1) hbt;omega
  omega
noncomputable def BBo(n f:Nat)(kf:Nat->Nat)(pf:Nat->Int)(R:Nat->List Row)(ds:List Bool)(pl:Nat->Nat)(v:Nat): List BkT:=Yz (ds.getD v false) (λx=>wtL (TV n f kf pf R ds pl) x (chK kf pf v n)) (lastC kf v) (R v)
theorem EVm: ElT Tryz.prog 101 140 1 8 (.map none):=⟨Tryz.underlying101,info_parts kr,rfl,by decide⟩
theorem ETm: ElT Tryz.prog 102 148 1 8 (.map none):=⟨Tryz.underlying102,info_parts kr,rfl,by decide⟩
theorem EU32s: ElT Tryz.prog 30 89 1 4 (.int .u32 0):=⟨Tryz.underlying30,info_parts kr,rfl,by decide⟩
theorem Xwd(z:Int)(w:World): (Instr.buildSlice 30 1 #[(0,.int .u32 z)]).run Tryz.prog w=.ok (.slice (some ⟨w.heap.size,0,none⟩) 1 1) (w.alloc (.cells [.int .u32 z].toArray 89)):=kr
theorem Qcx: Qa Tryz.prog 95=some (.agg #[.int .i64 0,.slice none 0 0]):=kr
theorem Xvj(z:Int)(w:World): (Instr.build 95 #[(0,.int .i64 z)]).run Tryz.prog w=.ok (.agg #[.int .i64 z,.slice none 0 0]) w:=kr
theorem Qdd: Qa Tryz.prog 104=some (.agg #[.int .i64 0,.int .i64 0,.slice none 0 0,.slice none 0 0,.slice none 0 0,.slice none 0 0,.slice none 0 0,.slice none 0 0,.slice none 0 0,.slice none 0 0]):=kr
theorem Xvm(n f:Int)(D P A B R:Option Addr)(dn dc pn pc an ac bn bc rn rc:Nat)(w:World): (Instr.build 104 #[(0,.agg #[.int .i64 n,.int .i64 f,.slice D dn dc,.slice P pn pc,.slice A an ac]),(1,.slice B bn bc),(2,.slice R rn rc)]).run Tryz.prog w=.ok (.agg #[.int .i64 n,.int .i64 f,.slice D dn dc,.slice P pn pc,.slice A an ac,.slice B bn bc,.slice R rn rc,.slice none 0 0,.slice none 0 0,.slice none 0 0]) w:=kr
theorem Xbk(a b:List Nat): Uc (a++b)=Uc a++Uc b:=by simp[Uc]
theorem Xyh{A:Option Addr}(hA:Rd w 3 A ts.length (atC ts))(hc:ts.length<=c)(hm:ts.length<=1100000)(he:∀ p∈ts,AtV w p.1 p.2): GV 3 AtG w (.slice A ts.length c) (ts.map (·.2)):=by
 refine⟨ts.map λt=>(t.1.cells,t.2),A,c,by simp,by rw[List.length_map],by grind,by grind,?_,λp hp=>?_⟩
 .grind [List.length_map,Jd,atC,List.flatMap_map]
 obtain⟨t,ht,rfl⟩:=List.mem_map.1 hp;exact⟨rfl,t.1,rfl,he t ht⟩
theorem Xqr{sz:Nat}{g : Nat → List Value}(h : ∀ i, i < n → (g i).length = sz)(hf : f ≤ n): (Qf n g).take (f * sz) = Qf f g := by
  induction n with
  | zero => have : f = 0 := by omega
            subst this; simp [Qf]
  | succ n ih =>
    have hl := Jvx (n := n) (fun i hi => h i om)
    by_cases e : f = n + 1
    . subst e
      rw [List.take_of_length_le]
      rw [Jvx h]; exact nR _
    repeat grind [Iv,Nat.mul_le_mul_right]
theorem Jyq{es:List Nat}{kf:Nat->Nat}(h:ElR n f m es perm vars rs kf pf R)(hv:v<f):
  GInv (ds.getD v false) (λx=>wtL (TV n f kf pf R ds (plO perm f)) x (chK kf pf v n)) (lastC kf v) (R v) (BBo n f kf pf R ds (plO perm f) v):=Jvv (h.rlt hv) (h.rl hv)
theorem Qtz{v:Value}(hTB:TB B0 w)(hI:BldI n f ds perm ts vars rs)(hV:BldV w v n f ds perm ts):
  Ret Tryz.prog 7 [v] w λu w'=>Ext w w'/\∃(x:Value) (st:Int) (kf:Nat->Nat) (pf:Nat->Int) (R:Nat->List Row),u=.tuple #[x,.int .i64 st,.int .i64 0]/\ElR n f ts.length (Zh ts.length vars) perm vars rs kf pf R /\
   Off (λk=>k<w.heap.size) w' λW=>IxV W x f ds kf pf (λu=>if Yj n pf (TV n f kf pf R ds (plO perm f)) (ts.map (·.2))=0 then[] else BBo n f kf pf R ds (plO perm f) u) (Yj n pf (TV n f kf pf R ds (plO perm f)) (ts.map (·.2))):=by
 obtain⟨g8,fx⟩:=hI.inp hV;obtain⟨DA,dc,PA,pc,AA,ac,rfl,j1,hD,hP,iv,hA,fz,fb⟩:=id hV;have bq:=hI.run.n32;have ie:=hI.run.m32;have co:=hI.pm.fn;have iu:=hI.pm.len;have fw:=hI.dl;refine enE Tryz.func7 Tryz.ntmps7 ?_;refine bxR ?_;intro w1 b1 em j5 f9;refine Jv Ih ?_;intro w2 b2 da hg gf;refine Jl (f9.ext da) ?_;refine clR (Jmn (g8.ext (em.trans da)) (by simp only;omega) (by simp only;omega)) ?_;rintro u w3 ⟨d9,e,rfl,he⟩;have h8:e=0:=he.2 fx;subst h8;refine ρ ?_;have d1:=(f9.ext da).ext d9;refine ld (d1.at (i:=0) rfl) ?_;refine Zc (Xvj _ _) ?_;refine Jv Qcx ?_;intro w4 b6 gn fy c7;refine Qp c7 ?_;intro w5 ge j0 gm;have du:Ext w3 w5:=gm w3 gn fy;have dw:Ext w w3:=(em.trans da).trans d9;refine ldR ((d1.ext du).at (i:=4) rfl) ?_;refine ρ ?_;refine Qh (fun (i:Nat) (vl:Value)=>[(1,.pointer (some ⟨b1,0,none⟩)),(2,.pointer (some ⟨b2,0,none⟩)),(3,.int .i64 0),(4,.int .i64 0),(6,.pointer (some ⟨b6,0,none⟩)),(34,.slice AA ts.length ac),(35,.int .i64 (ts.length:Int)),(36,.int .i64 (i:Int))])
  (λi vl w'=>i<=ts.length/\Ext w3 w'/\Blk w' b6 95 [.int .i64 (n:Int),vl]/\w'.ownsRow w3.heap.size 89 1 vl i (Uc ((Zh ts.length vars).take i))) (λi _=>ts.length-i) 0 (.slice none 0 0) sB
  ⟨Nat.zero_le _,du,ge,by rw[List.take_zero];exact Zd _ _ _ _⟩ ?_
 rintro i vl w6 ⟨hi,ah,bz,c6⟩;obtain⟨EA,ec,rfl,fu,h7⟩:=Jy c6;refine ciR (λh=>?_) (λh=>?_)
 .have li:i<ts.length:=by have:=oT h;omega
  clear h;have ai:=dw.trans ah;have hp:=fb _ (Jbl rfl li);have ez:=hI.run.at_ i li;have dz:=hI.run.lt i li;generalize hq:ts.getD i ta0=q at hp ez
  obtain⟨⟨t1,t2,t3⟩,a⟩:=q;simp only at ez;subst ez;obtain⟨⟨QA,qc,d6,fj,fi,er⟩,d5,dd⟩:=id hp;simp only at d6 d5;obtain⟨bc,PG,bd,i5,d4,_⟩:=id dd;simp only at d4;subst d6;subst d5;subst d4;have iw:(vars i).length<=1100000:=by have:=fi;simpa [Qg] using this
  rw[Qg]at er fj;have aq:∀ j u,([.slice QA (nz (vars i)).length qc,.int .i64 ((vars i).length:Int),.slice PG bc.length bd]:List Value)[j]?=some u->w6.cell? ((adr AA (i*3)).add j)=some u:=λj u hu=>Ga ai (Jkr hA rfl li (by rw[hq];exact hu));rw[Qg]at aq;refine Qs 3 i (hA.ext ai) li ?_;refine Ja (cs:=[.slice QA (vars i).length qc,.int .i64 ((vars i).length:Int),.slice PG bc.length bd]) aq ?_;refine Jv Yp ?_;intro w7 b8 c5 ha i4;refine Qb (cs':=[.slice QA (vars i).length qc,.int .i64 ((vars i).length:Int),.slice PG bc.length bd]) i4 ?_ (Ku rfl);intro w8 gd a5 bf;have ax:Ext w6 w8:=bf w6 c5 ha;refine ldR (gd.at (i:=0) rfl) ?_;refine ρ ?_;have fk:=er.ext (ai.trans ax);refine Qr (fun (j:Nat)=>[(1,.pointer (some ⟨b1,0,none⟩)),(2,.pointer (some ⟨b2,0,none⟩)),(3,.int .i64 0),(4,.int .i64 0),(6,.pointer (some ⟨b6,0,none⟩)),(34,.slice AA ts.length ac),(35,.int .i64 (ts.length:Int)),(36,.int .i64 (i:Int)),(9,.int .u32 (Gk 0 ((vars i).take j):Int)),(41,.slice QA (vars i).length qc),(42,.int .i64 ((vars i).length:Int)),(43,.int .i64 (j:Int))])
   (λj w'=>j<=(vars i).length/\w'=w8) (λj=>(vars i).length-j) 0 sB ⟨Nat.zero_le _,rfl⟩ ?_
  rintro j _ ⟨hj,rfl⟩;refine ciR (λh=>?_) (λh=>?_)
  .have lj:j<(vars i).length:=by have:=oT h;omega
   clear h;have ir:=dz _ (getD_mem' 0 (vars i) lj);refine ixR j fk lj ?_;refine ldR (fk.cell (show(Qq (nz (vars i)))[j]?=some (.int .i64 ((vars i).getD j 0:Int)) by simp[Qq,nz,List.getD,List.getElem?_eq_getElem lj])) ?_;refine ρ ?_;refine sl32 (v:=(vars i).getD j 0) om ?_;refine ρ ?_;have i6:Gk 0 ((vars i).take j)<4294967296:=nM (Jmz (l:=(vars i).take j) λv hv=>dz v (List.mem_of_mem_take hv)) (Jzb bq);rw[Jxd i6 (Jqh om),<-Xxp,<-Xz 0 lj];refine ρ ?_;exact Qn (j+1) sO ⟨lj,rfl⟩ om
  have gy:j=(vars i).length:=by have:=oF h;omega
  clear h;rw[gy,List.take_length];have cy:=bz.ext ax;refine ldR (cy.at (i:=1) rfl) ?_;refine Xq (Xwd _) ?_;intro w9 b9 ca j4 i3;have dt:=ah.trans (ax.trans ca);refine ρ ?_;refine apb (m':=1) (news:=[.int .u32 (Gk 0 (vars i):Int)]) EU32s (Jk c6 (ax.trans ca)) (i3.rd (n:=1) rfl) (by simp[Value.oneCell']) (by unfold maxLen;omega) om dt.size ?_;intro ip b7 cm e5 ic;have au:Blk b7 b6 95 [.int .i64 (n:Int),.slice EA i ec]:=(cy.ext ca).grown e5 ((cy.ext ca).ne_own (Jk c6 (ax.trans ca)) rfl);obtain⟨dq,dk,rfl,_,ih⟩:=Jy cm;refine Xt (au.at (i:=1) rfl) (au.frozen 1) ?_;obtain⟨a4,bp⟩:∃ a4,a4=b7.setCell ⟨b6,1,none⟩ (.slice dq (i+1) dk):=⟨_,rfl⟩;rw[show b7.setCell ((⟨b6,0,none⟩:Addr).add 1) (.slice dq (i+1) dk)=a4 from bp.symm];have br:GrN (λk=>k=b6) b7 a4:=by rw[bp];exact GrN.set _ rfl
  have f5:Blk a4 b6 95 [.int .i64 (n:Int),.slice dq (i+1) dk]:=by rw[bp];exact au.set 1 _
  clear bp;have el:Ext w3 b7:=Qt dt e5 λg Z=>(h7 g Z).1;refine ρ ?_;refine Qk (i+1) (.slice dq (i+1) dk) sO ⟨li,br.old el λk C=>by rw[C];exact fy,f5,?_⟩ om;have e1:(Zh ts.length vars).take (i+1)=(Zh ts.length vars).take i++[Gk 0 (vars i)]:=by
   rw[Xz 0 (by simp[Zh];exact li)];congr 2
   simp[Zh,List.getD,li];rfl
  rw[e1,Xbk];exact Qj cm br λg Z e=>by rw[e]at Z;exact au.ne_own cm rfl Z.symm
 have fp:i=ts.length:=by have:=oF h;omega
 clear h;have aj:=hI.es.1;rw[fp,List.take_of_length_le (by rw[aj];exact nR _)]at c6;rw[fp]at bz fu;have ft:=hI.es.2.2;obtain⟨es,fr⟩:∃ es,es=Zh ts.length vars:=⟨_,rfl⟩;rw[<-fr]at aj ft c6;have hw:GrV w6 EA ec n es:=⟨by rw[aj];exact Rd.own c6,by rw[aj];exact fu,bq,by rw[aj];omega,ft⟩;rw[<-aj]at bz;have d0:=d1.ext ah;have ai:=dw.trans ah;refine Jl bz ?_;refine ldR (d0.at (i:=1) rfl) ?_;refine ldR (d0.at (i:=3) rfl) ?_;refine clR (Xxm (pc:=pc) hw hI.pm (hP.ext ai)) ?_;rintro u w7 ⟨c5,BA,kf,pf,rfl,gw,bj⟩;rw[fr]at bj;refine ρ ?_;have cg:=ai.trans c5;have cz:=d0.ext c5;refine ld (cz.at (i:=0) rfl) ?_;refine ldR (cz.at (i:=4) rfl) ?_;refine ρ ?_;have fo:∀ v,v<n->kf v<4294967296:=λv hv=>(bj v hv).1;have gc:=Rd.own gw;refine cl (Xyb (vars:=vars) (rs:=rs) bq (λv hv=>⟨hI.run,Qbh hI bj hv,λi hi r hr=>List.all_eq_true.2 λu hu=>(hI.ok i hi r hr u hu).1,(hI.cap kf pf bj v hv).2⟩) (hA.ext cg) fz (λp hp=>(fb p hp).ext cg) gc fo (λv hv=>(hI.cap kf pf bj v hv).1)) ?_
 rintro u w8 ⟨bf,va,gl,R,rfl,fl,cx⟩;have a3:=hI.elr bj cx;have eb:=fl.here;have cr:=eb;have ff:=cg.trans bf;obtain⟨RA,rc,iq,rfl,gu,gt,g5,hh⟩:=eb.parts;rw[List.length_map,List.length_range]at gu gt g5 cr ⊢;refine ρ ?_;refine Qh (fun (k:Nat) (st:Int)=>[(1,.pointer (some ⟨b1,0,none⟩)),(2,.pointer (some ⟨b2,0,none⟩)),(12,.slice BA n n),(14,.slice RA n rc),(15,.int .i64 st),(86,.slice RA n rc),(87,.int .i64 (n:Int)),(88,.int .i64 (k:Int))])
  (λk st w'=>k<=n/\Ext w8 w') (λk _=>n-k) 0 gl sB ⟨Nat.zero_le _,Ext.refl _⟩ ?_
 rintro k st w9 ⟨C,a1⟩;refine ciR (λh=>?_) (λh=>?_)
 .have lk:k<n:=by have:=oT h;omega
  clear h;obtain⟨ce,j2,⟨⟨t1,t2,t3⟩,rfl,fa⟩,aq⟩:=hh k (by simpa using lk);simp only[List.getElem_map,List.getElem_range]at fa;obtain⟨⟨QA,qc,d6,fj,fi,er⟩,d5,de⟩:=id fa;simp only at d6 d5;obtain⟨bc,PG,bd,i5,d4,_⟩:=id de;simp only at d4;subst d6;subst d5;subst d4;refine Qs 3 k (g5.ext a1) lk ?_;refine Ja (cs:=[.slice QA (Ya (kf k ||| 2^k) (R k)).vars.length qc,.int .i64 ((Ya (kf k ||| 2^k) (R k)).ar:Int),.slice PG bc.length bd]) (λj u hu=>Ga a1 (aq j u hu)) ?_;refine Jv Yp ?_;intro b7 bb cd h9 i2;refine Qb (cs':=[.slice QA (Ya (kf k ||| 2^k) (R k)).vars.length qc,.int .i64 ((Ya (kf k ||| 2^k) (R k)).ar:Int),.slice PG bc.length bd]) i2 ?_ (Ku rfl);intro a4 f4 br cc;have ap:Ext w9 a4:=cc w9 cd h9;refine Ja (cs:=[.int .i64 ((Ya (kf k ||| 2^k) (R k)).ar:Int),.slice PG bc.length bd]) (λj u hu=>f4.sub (i:=1) (j:=j) (by rw[Nat.add_comm];exact hu)) ?_;refine clR (Jwr (fa.ext (a1.trans ap)).rel) ?_
  rintro u ao ⟨rfl,G⟩;obtain⟨ej,fh⟩:∃ ej:Int,ej=IntKind.i64.wrap (st+((Ya (kf k ||| 2^k) (R k)).rows.length:Int)):=⟨_,rfl⟩;refine ρ ?_;rw[<-fh];refine ρ ?_;exact Qk (k+1) ej sO ⟨lk,(a1.trans ap).trans G⟩ om
 have iy:k=n:=by have:=oF h;omega
 clear h;have a2:=ff.trans a1;have aa:=(cz.ext bf).ext a1;refine Jl aa ?_;refine Zc (Xvm _ _ _ _ _ _ _ _ _ _ _ _ _ _ _ _ _ _) ?_;refine Jv Qdd ?_;intro b7 o cd b3 gg;refine Qp gg ?_;intro a4 dj br cc;have ap:Ext w9 a4:=cc w9 cd b3;have bi:∀ v,v<n->∀ x∈R v,(x.length=(bk (kf v ||| 2^v) 32).length/\FitR x)/\∀ u∈x,Xm u=true:=λv hv x hx=>by
  obtain⟨z,_,rfl,hb⟩:=((cx v hv).2.1 x).1 hx;have:=hI.fit (Qbh hI bj hv) hb;exact⟨⟨Xr _ _,this.1⟩,this.2⟩
 have hF:FixW B0 n f kf pf R (.slice RA n rc) BA w9:=⟨hTB.ext a2,gc.ext (bf.trans a1),cr.ext a1 λcs a h=>Jpf h a1,bq,co,fo,λc O e=>by have:=(a3.chf c c O e).2;omega,λv hv x hx=>(bi v hv x hx).1,λv hv=>(cx v hv).2.2⟩;have fd:Ext a4 a4.drew:=(Ext.refl a4).drew;have bl:=ap.trans fd;have ef:=(aa.ext bl);have f3:=dj.ext fd;have dx:¬ b1=o:=λe=>by have:=aa.lt;omega
 refine ρ ?_;refine drM (λk=>k=o) ?_;refine Zo (fuel':=6) [(0,0),(0,1),(0,3),(0,4)] #[true,true,false,true,true,false,false,false,false,false] kr kr rfl ?_;refine ρn ?_;refine nld (Jt (ef.at (i:=0) rfl) dx) ?_;refine ρn ?_;refine nld (Jt (ef.at (i:=0) rfl) dx) ?_;refine ρn ?_;refine Zu ?_;refine Iz 2 (lst 10 8) (fun (y:Option Addr×Option Addr)=>[(107,.slice y.2 n n),(1,.pointer (some ⟨b1,0,none⟩)),(2,.pointer (some ⟨b2,0,none⟩)),(12,.slice BA n n),(15,.int .i64 st),(18,.pointer (some ⟨o,0,none⟩))])
  (λy W=>GrN (λk=>k=o) a4.drew W/\Blk W o 104 [.int .i64 (n:Int),.int .i64 (f:Int),.slice DA f dc,.slice PA perm.length pc,.slice AA ts.length ac,.slice BA n n,.slice RA n rc,.slice y.1 n n,.slice none 0 0,.slice none 0 0] /\
   W.ownsRow a4.drew.heap.size 140 1 (.slice y.1 n n) n (List.replicate n (.map none))/\W.ownsRow a4.drew.heap.size 148 1 (.slice y.2 n n) n (List.replicate n (.map none))) ?_ ?_
 rotate_left
 .intro rest;refine Yr 2 5 kr rfl rfl rfl ?_ ?_
  .refine mkn EVm n om (by unfold maxLen;omega) ?_;intro ao VA G a8 _;rw[Gx _ rfl]at a8;refine Jw (Ju (GrN.ext G) ?_);refine Zo (fuel':=4) [(0,6)] #[true,true,true,true,true,false,true,false,false,false] kr kr rfl ?_;refine ρn ?_;refine Zu ?_;refine Yr 5 7 kr rfl rfl rfl ?_ ?_
   .refine mkn ETm n om (by unfold maxLen;omega) ?_;intro ab TA D a9 _;rw[Gx _ rfl]at a9;refine Jw (Ju (GrN.ext D) ?_);refine Xp 7 kr rfl rfl ?_;have ag:=(f3.ext G).ext D;refine sto (ag.at (i:=7) rfl) (ag.frozen 7) ?_;have a5:GrN (λk=>k=o) ab (ab.setCell ⟨o,7,none⟩ (.slice VA n n)):=GrN.set _ rfl;refine Jw (Ju a5 ?_);refine Zw (listed':=lst 10 8) kr ?_;refine rest (VA,TA) _ _ ⟨(GrN.ext (G.trans D)).trans a5,ag.set 7 _,Qj (Jk a8 D) a5 λg Z e=>?_,Qj (a9.mono G.size) a5 λg Z e=>?_⟩ sB
    .rw[e]at Z;exact ag.ne_own (Jk a8 D) rfl Z.symm
    rw[e]at Z;exact ag.ne_own a9 rfl Z.symm
   have c7:=f3.ext G;refine sto (c7.at (i:=7) rfl) (c7.frozen 7) ?_;have a5:GrN (λk=>k=o) ao (ao.setCell ⟨o,7,none⟩ (.slice VA n n)):=GrN.set _ rfl;refine Jw (Ju a5 ?_);refine Xp 5 kr rfl rfl ?_;refine mkn ETm n om (by unfold maxLen;omega) ?_;intro ab TA D a9 _;rw[Gx _ rfl]at a9;refine Jw (Ju (GrN.ext D) ?_);refine Zw (listed':=lst 10 8) kr ?_;refine rest (VA,TA) _ _ ⟨((GrN.ext G).trans a5).trans (GrN.ext D),(c7.set 7 _).ext D,Jk (Qj a8 a5 λg Z e=>?_) D,a9.mono (nL G.size a5.size)⟩ sB;rw[e]at Z;exact c7.ne_own a8 rfl Z.symm
  refine mkn ETm n om (by unfold maxLen;omega) ?_;intro ao TA G af _;rw[Gx _ rfl]at af;refine Jw (Ju (GrN.ext G) ?_);refine Xp 2 kr rfl rfl ?_;refine mkn EVm n om (by unfold maxLen;omega) ?_;intro ab VA D b5 _;rw[Gx _ rfl]at b5;refine Jw (Ju (GrN.ext D) ?_);refine Zo (fuel':=3) [(0,6)] (lst 10 7) kr kr rfl ?_;refine ρn ?_;refine Zu ?_;refine Xp 7 kr rfl rfl ?_;have ag:=(f3.ext G).ext D;refine sto (ag.at (i:=7) rfl) (ag.frozen 7) ?_;have a5:GrN (λk=>k=o) ab (ab.setCell ⟨o,7,none⟩ (.slice VA n n)):=GrN.set _ rfl;refine Jw (Ju a5 ?_);refine Zw (listed':=lst 10 8) kr ?_;refine rest (VA,TA) _ _ ⟨(GrN.ext (G.trans D)).trans a5,ag.set 7 _,Qj (b5.mono G.size) a5 λg Z e=>?_,Qj (Jk af D) a5 λg Z e=>?_⟩ sB
  .rw[e]at Z;exact ag.ne_own b5 rfl Z.symm
  rw[e]at Z;exact ag.ne_own (Jk af D) rfl Z.symm
 rintro⟨VA,TA⟩ ao ⟨df,an,a8,af⟩;simp only at an a8 af;refine Zo (fuel':=1) [(0,8)] (lst 10 9) kr kr rfl ?_;refine ρn ?_;refine Zu ?_;refine Xp 9 kr rfl rfl ?_;refine sto (an.at (i:=8) rfl) (an.frozen 8) ?_;have az:GrN (λk=>k=o) ao (ao.setCell ⟨o,8,none⟩ (.slice TA n n)):=GrN.set _ rfl;refine Jw (Ju az ?_);refine Jzr kr ?_;obtain⟨ab,bo⟩:∃ ab,ab=ao.setCell ⟨o,8,none⟩ (.slice TA n n):=⟨_,rfl⟩;have f8:Blk ab o 104 [.int .i64 (n:Int),.int .i64 (f:Int),.slice DA f dc,.slice PA perm.length pc,.slice AA ts.length ac,.slice BA n n,.slice RA n rc,.slice VA n n,.slice TA n n,.slice none 0 0]:=by rw[bo];exact an.set 8 _
 rw[<-bo]at az;rw[show ao.setCell ((⟨o,0,none⟩:Addr).add 8) (.slice (VA,TA).2 n n)=ab from bo.symm];clear bo;have b5:=Qj a8 az λg Z e=>by rw[e]at Z;exact an.ne_own a8 rfl Z.symm
 have a9:=Qj af az λg Z e=>by rw[e]at Z;exact an.ne_own af rfl Z.symm
 have be:Ext w9 ab:=az.old (df.old bl λk C=>by rw[C];exact b3) λk C=>by rw[C];exact b3
 refine ldR ((aa.ext be).at (i:=1) rfl) ?_;refine ρ ?_;refine mkn EBks f om (by unfold maxLen;omega) ?_;intro d7 KA bm ea _;rw[Gx _ rfl]at ea;refine ρ ?_;have c4:=f8.ext bm;refine sto (c4.at (i:=9) rfl) (c4.frozen 9) ?_;obtain⟨aw,bn⟩:∃ aw,aw=d7.setCell ⟨o,9,none⟩ (.slice KA f f):=⟨_,rfl⟩;have e4:GrN (λk=>k=o) d7 aw:=by rw[bn];exact GrN.set _ rfl
 have gh:Blk aw o 104 (bCs n f (.slice DA f dc) (.slice PA perm.length pc) (.slice AA ts.length ac) BA n (.slice RA n rc) VA n TA n (.slice KA f f)):=by rw[bn];exact c4.set 9 _
 rw[show d7.setCell ((⟨o,0,none⟩:Addr).add 9) (.slice KA f f)=aw from bn.symm];clear bn;have bg:∀ {t:Nat} {v:Value} {xs:List Value} {b m:Nat},d7.ownsRow b t 1 v m xs->Nat.beq t 104=false->aw.ownsRow b t 1 v m xs:=λho gx=>Qj ho e4 λg Z e=>by rw[e]at Z;exact c4.ne_own ho gx Z.symm
 have c9:Ext w9 aw:=e4.old (be.trans bm) λk C=>by rw[C];exact b3
 have g3:=bg ((Jk b5 bm).mono bl.size) rfl;have g4:=bg ((Jk a9 bm).mono bl.size) rfl;have g7:=bg (ea.mono be.size) rfl;have g0:BldW w9 o n (bCs n f (.slice DA f dc) (.slice PA perm.length pc) (.slice AA ts.length ac) BA n (.slice RA n rc) VA n TA n (.slice KA f f)) VA n TA n aw (List.replicate n (.map none)) (List.replicate n (.map none)):=⟨c9,gh,g3,g4⟩;obtain⟨T,hT⟩:∃ T,T=TV n f kf pf R ds (plO perm f):=⟨_,rfl⟩;have f2:∀ c,f<=c->∀ k,T c k<=1:=λc O k=>by rw[hT];exact Jpm a3.chf c O k
 have f0:∀ c k,T c k<=4294967296^20:=λc k=>by rw[hT];exact a3.big c k
 have f7:=aa.ext c9;refine ldR (f7.at (i:=3) rfl) ?_;have j6:(Value.slice KA f f)=Value.slice KA f f:=rfl;obtain⟨AR,fc⟩:∃ AR:Nat->Prop,AR=λk=>ARk n f VA n TA n (.slice KA f f) k∨k=b2∨k<w.heap.size:=⟨_,rfl⟩;have d3:∀ k,ARk n f VA n TA n (.slice KA f f) k->AR k:=λk C=>by rw[fc];exact .inl C
 have e6:b2<w9.heap.size:=nM gf.lt (d9.trans (ah.trans (c5.trans (bf.trans a1)))).size;have d2:∀(W:World) (va ta ba:List Value),Ext w9 W->W.ownsRow w9.heap.size 140 1 (.slice VA n n) n va->W.ownsRow w9.heap.size 148 1 (.slice TA n n) n ta->W.ownsRow w9.heap.size 149 1 (.slice KA f f) f ba->∀ k,AR k->k<W.heap.size:=λW va ta ba fe hv ht hb k C=>by
  rw[fc]at C;rcases C with(C|C|C)|C|C
  .exact((Jy hv).choose_spec.choose_spec.2.2 k C).2
  .exact((Jy ht).choose_spec.choose_spec.2.2 k C).2
  .exact((Jy hb).choose_spec.choose_spec.2.2 k C).2
  .rw[C];exact nM e6 fe.size
  exact nM C (a2.trans fe).size
 have lV:∀ {W:World} {xs:List Value},W.ownsRow w9.heap.size 140 1 (.slice VA n n) n xs->∀ g,(Value.slice VA n n).ownBlock=some g->w9.heap.size<=g/\g<W.heap.size:=λho=>(Jy ho).choose_spec.choose_spec.2.2;have gi:∀ k,(Value.slice VA n n).ownBlock=some k->AR k:=λk C=>d3 k (.inl C);refine ρ ?_;refine Qh (fun (i:Nat) (va:List Value)=>[(1,.pointer (some ⟨b1,0,none⟩)),(2,.pointer (some ⟨b2,0,none⟩)),(12,.slice BA n n),(15,.int .i64 st),(18,.pointer (some ⟨o,0,none⟩)),(115,.slice PA perm.length pc),(116,.int .i64 (perm.length:Int)),(117,.int .i64 (i:Int))])
  (λi va w'=>i<=perm.length/\BldW w9 o n (bCs n f (.slice DA f dc) (.slice PA perm.length pc) (.slice AA ts.length ac) BA n (.slice RA n rc) VA n TA n (.slice KA f f)) VA n TA n w' va (List.replicate n (.map none)) /\
   w'.ownsRow w9.heap.size 149 1 (.slice KA f f) f (List.replicate f (.slice none 0 0))/\∀ c,c<n->plO perm f c<i->f<=c->DnV AR (T c) w' (va.getD c (.map none))) (λi _=>perm.length-i) 0 _ sB
  ⟨Nat.zero_le _,g0,g7,λc O h=>om⟩ ?_
 rintro i va ei ⟨hi,a7,bs,dg⟩;have e9:Rd ei 1 PA perm.length (Qq (nz perm)):=hP.ext (a2.trans a7.ext);refine ciR (λh=>?_) (λh=>?_)
 .have li:i<perm.length:=by have:=oT h;omega
  clear h;obtain⟨v,hv⟩:∃ v,v=perm.getD i 0:=⟨_,rfl⟩;have db:=hI.pm.rng v (by rw[hv];exact getD_mem' 0 perm li);have ia:plO perm f v=i:=by rw[hv];exact hI.pm.plPerm li
  refine ixR i e9 li ?_;refine ldR (e9.cell (show(Qq (nz perm))[i]?=some (.int .i64 (v:Int)) by rw[hv];simp[Qq,nz,List.getD,List.getElem?_eq_getElem li])) ?_;refine clR (Qmx (AR:=AR) hF a7 db.2 (λc O hp hf=>?_) (λc O hp hf=>?_) f2 f0 d3 (d2 _ _ _ _ a7.ext a7.va a7.ta bs)) ?_
  .have:=(a3.chf c v O hp).2;exact dg c O om hf
  .have h1:=(a3.chf c v O hp).2;have h2:=hI.pm.plLow hf db.1 db.2;omega
  rintro u c8 ⟨rfl,mv,J,e3,gb⟩;have eu:GrN AR ei c8:=e3.mono λk _ C=>gi k C;have ak:=Qj bs e3 λg Z e=>by
   have h1:=a7.va;rcases h1.2 with⟨h2,_⟩|⟨g1,c1,cu1,h2,_,h3,_⟩
   .rw[h2]at e;simp[Value.ownBlock]at e
   rcases bs.2 with⟨h4,_⟩|⟨g2,c2,cu2,h4,_,h5,_⟩
   .rw[h4]at Z;simp[Value.ownBlock]at Z
   rw[h2]at e;rw[h4]at Z;simp only[Value.ownBlock,Option.some.injEq]at e Z;subst e;subst Z;rw[h3]at h5;injection h5 with h5
   injection h5 with _ h6
   exact absurd h6 (by decide)
  refine ρ ?_;refine Qk (i+1) (va.set v mv) sO ⟨li,J,ak,λc O ib hf=>?_⟩ om;have i8:va.length=n:=by have:=a7.va.1;omega
  by_cases e:c=v
  .subst e;rw[getD_set' (.map none) va c c mv om,if_pos rfl,hT,Jyn a3.chf O hf,<-hT];exact gb
  rw[getD_set' (.map none) va v c mv om,if_neg e];refine(dg c O ?_ hf).gr eu;rcases Nat.lt_or_ge (plO perm f c) i with h'|h'
  .exact h'
  exact absurd (hI.pm.inj O db.2 om) e
 have ig:i=perm.length:=by have:=oF h;omega
 clear h;have am:∀ c,c<n->f<=c->DnV AR (T c) ei (va.getD c (.map none)):=λc O hf=>dg c O (by
  have hm:c∈perm:=by
   rcases List.mem_append.1 (hI.pm.omem.2 O) with h1|h1
   .exact h1
   have:=List.mem_range.1 (List.mem_reverse.1 h1);omega
  obtain⟨j,hj,e⟩:=List.getElem_of_mem hm;have:=hI.pm.plPerm hj;rw[Ql 0 _ hj,e]at this;omega) hf
 have di:=aa.ext a7.ext;refine ldR (di.at (i:=1) rfl) ?_;refine ρ ?_;refine Xe (fun (i:Nat) (ta ba:List Value)=>[(1,.pointer (some ⟨b1,0,none⟩)),(2,.pointer (some ⟨b2,0,none⟩)),(12,.slice BA n n),(15,.int .i64 st),(18,.pointer (some ⟨o,0,none⟩)),(125,.int .i64 (f:Int)),(126,.int .i64 (i:Int))])
  (λi ta ba w'=>i<=f/\BldW w9 o n (bCs n f (.slice DA f dc) (.slice PA perm.length pc) (.slice AA ts.length ac) BA n (.slice RA n rc) VA n TA n (.slice KA f f)) VA n TA n w' va ta /\
   w'.ownsRow w9.heap.size 149 1 (.slice KA f f) f ba/\(∀ c,c<n->f<=c->DnV AR (T c) w' (va.getD c (.map none))) /\
   ∀ c,c<f->f-i<=c->DnT AR (T c) w' (ta.getD c (.map none))/\DnB AR (ds.getD c false) w' (ba.getD c (.slice none 0 0)) (BBo n f kf pf R ds (plO perm f) c)) (λi _ _=>f-i) 0 _ _ sB
  ⟨Nat.zero_le _,a7,bs,am,λc O h=>om⟩ ?_
 clear dg am;rintro i ta ba c8 ⟨hi,J,ak,am,bw⟩;have c3:=aa.ext J.ext;refine ciR (λh=>?_) (λh=>?_)
 .have li:i<f:=by have:=oT h;omega
  clear h;obtain⟨v,hv⟩:∃ v,v=f-1-i:=⟨_,rfl⟩;have ch:v<f:=om
  have gq:v<n:=om
  refine ldR (c3.at (i:=1) rfl) ?_;refine ρ ?_;refine Go.Wk.kv 133 (show Value.int .i64 ((f:Int)-1-(i:Int))=.int .i64 (v:Int) by congr 1;omega) ?_;refine cl (Xqk (v:=v) (AR:=AR) hF fw (Rd.ext hD a2) J ak ch (by rw[(a3.lastC ch).2];omega) (λx hx=>?_) (a3.rlt ch) (λc O hp hf=>am c O hf) (λc O hp hf=>?_) f2 f0 d3 (d2 _ _ _ _ J.ext J.va J.ta ak)) ?_
  .have h1:=bi v gq x hx;refine h1.2 _ (getD_mem' V0 x ?_);rw[h1.1.1,(a3.lastC ch).2];omega
  .have h1:=(a3.chf c v O hp).2;have h2:plO perm f c<plO perm f v:=h1;rw[hI.pm.plFree hf,hI.pm.plFree ch]at h2;exact(bw c hf om).1
  rintro u eh ⟨rfl,mv,lv,b4,cq,cn,g9,ga⟩;have eB:Yz (ds.getD v false) (λx=>wtL T x (chK kf pf v n)) ((bk (kf v ||| 2^v) 32).length-1) (R v)=BBo n f kf pf R ds (plO perm f) v:=by rw[hT];rfl
  rw[eB]at g9 ga;have i9:ta.length=n:=by have:=J.ta.1;omega
  have ii:ba.length=f:=by have:=ak.1;omega
  refine ρ ?_;refine Xj (i+1) (ta.set v mv) (ba.set v lv) sO ⟨li,b4,cq,λc O hf=>(am c O hf).gr cn,λc O j3=>?_⟩ om;by_cases e:c=v
  .subst e;rw[getD_set' (.map none) ta c c mv om,if_pos rfl,getD_set' (.slice none 0 0) ba c c lv om,if_pos rfl];refine⟨?_,ga⟩;rw[hT,Jfd a3.chf co O];exact g9
  rw[getD_set' (.map none) ta v c mv om,if_neg e,getD_set' (.slice none 0 0) ba v c lv om,if_neg e];have:=bw c O om;exact⟨this.1.gr cn,this.2.gr cn⟩
 have iz:i=f:=by have:=oF h;omega
 clear h;have ep:∀ c,c<n->pf c = -1->f<=c->∀ k,0<T c k->k=[]:=λc O hp hf k C=>by
  rw[hT,Jyn a3.chf O hf,redT_pos]at C;obtain⟨x,_,_,e⟩:=C;have h1:∀ u,(kf c).testBit u=false:=by
   rcases a3.par O with⟨_,h1⟩|⟨p,h1,_⟩
   .exact h1
   rw[h1]at hp;omega
  have h2:Vw kf c=[]:=by
   unfold Vw Xh;refine List.filter_eq_nil_iff.2 λu _ hu=>?_;rw[h1]at hu;cases hu
  rw[h2]at e;exact e.symm
 have cv:∀ c,c<f->DnT AR (T c) c8 (ta.getD c (.map none))/\DnB AR (ds.getD c false) c8 (ba.getD c (.slice none 0 0)) (BBo n f kf pf R ds (plO perm f) c):=λc O=>bw c O om;clear bw;refine clR (Qgs (AR:=AR) hF J (Xyh (hA.ext a2) fz om λp hp=>(fb p hp).ext a2) (λc O=>?_) (λc O hf=>am c O hf) (λc O hf=>(cv c hf).1) ep f2 f0) ?_
 .rcases a3.par O with⟨h1,_⟩|⟨p,h1,_⟩
  .exact .inl h1
  exact .inr ⟨p,h1⟩
 rintro u eh ⟨eo,gz,ay⟩;have ew:b2<c8.heap.size:=nM e6 J.ext.size;obtain⟨tot,ck⟩:∃ tot,tot=Yj n pf T (ts.map (·.2)):=⟨_,rfl⟩
 rw[<-ck]at eo;rw[hT]at ck;obtain⟨dm,d8,rfl,cj⟩:=Jls eo;have fg:NatX (λk=>k=b2∨k<w.heap.size) eh (.slice dm (Jj tot).length d8) tot:=gz.x eo λk C=>by
  rcases C with C|C
  .rw[C];exact ew
  exact nM C (a2.trans J.ext).size
 have b4:=J.ext' ay;have cq:=Jk ak ay;refine ρ ?_;refine Zn (fun (y:Option Addr×List Value)=>[(1,.pointer (some ⟨b1,0,none⟩)),(2,.pointer (some ⟨b2,0,none⟩)),(12,.slice BA n n),(15,.int .i64 st),(18,.pointer (some ⟨o,0,none⟩)),(23,.slice dm (Jj tot).length d8)])
  (λy w'=>Ext w9 w'/\Blk w' o 104 (bCs n f (.slice DA f dc) (.slice PA perm.length pc) (.slice AA ts.length ac) BA n (.slice RA n rc) VA n TA n (.slice y.1 f f))/\Rd w' 1 y.1 f y.2/\NatX (λk=>k=b2∨k<w.heap.size) w' (.slice dm (Jj tot).length d8) tot /\
   ∀ c,c<f->DnB AR (ds.getD c false) w' (y.2.getD c (.slice none 0 0)) (if tot=0 then[] else BBo n f kf pf R ds (plO perm f) c)) ?_ ?_
 .refine ci (λh=>?_) (λh=>?_)
  .have h0:tot=0:=by
    have:=Zf h;rcases Nat.eq_zero_or_pos tot with h'|h'
    .exact h'
    have:=cj.2 h';omega
   clear h;have dh:=c3.ext ay;refine ldR (dh.at (i:=1) rfl) ?_;refine ρ ?_;refine mkn EBks f om (by unfold maxLen;omega) ?_;intro av dn dv cp _;rw[Gx _ rfl]at cp;refine ρ ?_;have a6:=b4.blk.ext dv;refine sto (a6.at (i:=9) rfl) (a6.frozen 9) ?_;have e2:GrN (λk=>k=o) av (av.setCell ⟨o,9,none⟩ (.slice dn f f)):=GrN.set _ rfl;have et:Ext eh (av.setCell ⟨o,9,none⟩ (.slice dn f f))∨True:=.inr trivial;clear et;refine ρ ?_;refine Jp (dn,List.replicate f (.slice none 0 0)) sB ⟨e2.old ((J.ext.trans ay).trans dv) λk C=>by rw[C];exact b3,a6.set 9 _,Rd.own (Qj cp e2 λg Z e=>by rw[e]at Z;exact a6.ne_own cp rfl Z.symm),?_,λc O=>?_⟩
   .have e0:(Jj tot).length=0:=by rw[h0,limbs_0];rfl
    rw[e0,h0];exact⟨⟨dm,d8,by rw[limbs_0];rfl,by rw[limbs_0];simp,by rw[limbs_0];simp,by rw[limbs_0];exact Rd.nil⟩,λh=>absurd rfl h⟩
   rw[if_pos h0];have:(List.replicate f (Value.slice none 0 0)).getD c (.slice none 0 0)=.slice none 0 0:=by simp[List.getD,O]
   rw[this];exact DnB.nil _ _ _
  have h0:¬ tot=0:=λe=>by
   have h1:=Zk h;have h2:¬ 0<(Jj tot).length:=λh'=>by have:=cj.1 h';omega
   omega
  clear h;refine ρ ?_;refine Jp (KA,ba) sB ⟨b4.ext,b4.blk,Rd.own cq,fg,λc O=>?_⟩;rw[if_neg h0];exact(cv c O).2.ext ay
 rintro⟨dn,j7⟩ av ⟨ek,a6,e8,en,cw⟩;simp only at a6 e8 cw;have ad:Ext av av.drew:=(Ext.refl av).drew;have ae:=ek.trans ad;have ee:=aa.ext ae;have i1:=a6.ext ad;have e7:¬ b1=b2:=λe=>by have:=f9.lt;omega
 have ey:¬ o=b2:=λe=>by omega
 have ed:=((gf.ext (d9.trans (ah.trans (c5.trans (bf.trans a1))))).ext ae);refine ρ ?_;refine drM (λk=>k=b2) ?_;refine Zo (fuel':=0) [(0,0),(0,1),(0,2),(0,3),(0,4),(0,5),(0,6),(0,7),(0,8),(0,10),(1,9),(1,11),(0,12),(0,13)] (lst 14 14) kr kr rfl ?_;refine ρn ?_;refine nld (Jt (ee.at (i:=2) rfl) e7) ?_;refine ρn ?_;refine nld (Jt (ee.at (i:=1) rfl) e7) ?_;refine ρn ?_;refine nslh f ?_ co;refine ρn ?_;refine nld (Jt (i1.at (i:=9) rfl) ey) ?_;refine ρn ?_;have i0:Rd av.drew 3 BA f (Qf f (Qo kf pf)):=by
  have h1:=(hF.bags.ext ae).take co;rw[Xqr (sz:=3) (g:=Qo kf pf) (λ_ _=>rfl) co]at h1;exact h1
 refine nop ?_;refine cl (Xym (M:=λk=>k=b2∨k<w.heap.size) (hTB.ext (a2.trans ae)) fw om (Rd.ext hD (a2.trans ae)) i0 (e8.ext ad) (λu hu=>((cw u hu).old λk C=>.inl (by rw[fc];exact .inr C)).ext ad) (en.ext ad) (λk C=>by
  rcases C with C|C
  .rw[C];exact ed.lt
  exact nM C (a2.trans ae).size) (λu hu b hb=>?_) (λu hu=>?_)) ?_
 .split at hb
  .cases hb
  obtain⟨y,hy,e1,_⟩:=entL_ne.1 ((Jyq a3 hu).con b hb).2;have h1:=(bi u om y hy).1.2;rw[<-e1];exact⟨by have:=h1.1;rw[List.length_take];omega,λz hz=>h1.2 z (List.mem_of_mem_take hz)⟩
 .split
  .exact List.Pairwise.nil
  exact(Jyq a3 hu).lt
 rintro xi gk ⟨g6,hl,cb⟩;obtain⟨xD,ik,xB,io,xK,im,xP,il,xt,_,_,rfl,_,_,_,_,_,_,⟨xT,ij,rfl,_⟩,_⟩:=hl.ex;refine ρ ?_;refine Js (GrN.ext cb) ?_;refine ρn ?_;refine nop ?_;refine stW (ed.ext cb) ?_;intro gj f6 fq i7;have bh:GrN (λk=>k=b2) gk gj:=GrN.by fq λk C=>by injection C with C;exact C.symm
 refine ρ ?_;refine Js bh ?_;refine ρn ?_;refine Zu ?_;refine Jzr kr ?_;refine ρ ?_;refine Jkd f6 ⟨bh.old ((a2.trans ae).trans cb) λk C=>by rw[C];exact nL em.size hg,_,st,kf,pf,R,rfl,a3,?_⟩;rw[<-ck];exact(g6.gr (bh.mono λk _ C=>.inl C)).mono λk _ C=>.inr C
end Go.Proofs.YtcdccafgdnblaaaGreatDoor
namespace Go.Wk
open Go.RowKit Maps
variable {d n ty:Nat}
theorem dmlo{P:Program}{al:AL}{w:World}{Q:Exit->Act->World->Prop}{ops:Array Oper}{drest:List (Nat×Oper)}{pos:String}{aft:Array Edge}{tt:TT}[hT:Tab P tt]{t k e b m:Nat}{kd:TK}{f:Lit->Option Value}{x y:Operand}{key z:Value}{kl:Lit}(K:Keyed P k)(hM:MapS P k w b m f)(hz:Qa P e=some z)(hkey:keyOf P k key=some kl)(kk:WD P n ops Q drest ((d,.tuple #[(f kl).getD z,.bool (f kl).isSome])::al) w)(ht:tk tt t=some kd:=by rfl)(hk:kd.desc=.map k e:=by rfl)(hx:ev al x=some (.map (some b)):=by rfl)(hy:ev al y=some key:=by rfl)(hd:Nat.blt d n=true:=by rfl):
  WD P n ops Q ((0,⟨some d,.lookup t x y true,ty,pos,aft,none⟩)::drest) al w :=
 dy (λw' j a i=>by
  have:=((hM.ext j).look K (Yd hT.ok ht hk rfl) (Jgt hz w') hkey).1;simp[execOp,i.ev hx,i.ev hy,this]) hd kk
end Go.Wk
namespace Go.Proofs.YtcdccafgdnblaaaGreatDoor
open Go.RowKit Pl Go.Wk
attribute [local irreducible] WC WL QX WD WDB WP WN WG
variable {B0 c v:Nat}{A:Option Addr}{k y:Row}
def trK(bs:List BkT)(k:Row): Tr:=match bs.find? λb=>decide (b.1=k) with
 | some b=>b.2
 | none=>.nil
theorem Jgb(bs:List BkT)(k:Row): (trK bs k).toL=entK bs k:=by
 unfold trK entK;cases bs.find? λb=>decide (b.1=k)<;>rfl
theorem Qkh: ∀ {bs:List BkT} {k:Row} {i:Nat},Zg bs k=some i->∃ b,bs[i]?=some b/\trK bs k=b.2/\b∈bs
 | [],_,_,h=>by simp[Zg]at h
 | b::bs,k,i,h=>by
  unfold Zg at h;rw[List.findIdx?_cons]at h;by_cases e:b.1=k
  .grind [Option.some.injEq,trK,List.mem_cons_self]
  simp only[e,decide_false]at h;obtain⟨j,hj,rfl⟩:=Option.map_eq_some_iff.1 h;obtain⟨b',h1,h2,h3⟩:=Qkh (bs:=bs) (k:=k) hj;grind [trK,List.mem_cons_of_mem]
theorem Jdf{bs:List BkT}(h:Zg bs k=none): trK bs k=.nil:=by grind [Zg,List.findIdx?_eq_none_iff,List.find?_eq_none.2,trK]
theorem Qyw{s u:Nat}(h:s<2^u): ∀ k,u<=k->bk s k=bk s u
 | 0,hk=>by(have:u=0:=by omega);(rw[this])
 | k+1,hk=>by
  by_cases e:u=k+1
  .rw[e]
  rw[Jjp,Qyw h k om];grind [Nat.testBit_lt_two_pow,Nat.lt_of_lt_of_le,Nat.pow_le_pow_right]
theorem Qyk(v:V)(w:World): (Instr.buildSlice 54 1 #[(0,v.val)]).run Tryz.prog w=.ok (.slice (some ⟨w.heap.size,0,none⟩) 1 1) (w.alloc (.cells v.cells.toArray 112)):=kr
section
variable {w:World} {x:Value} {f:Nat} {ds:List Bool} {kf:Nat->Nat} {pf:Nat->Int} {BB:Nat->List BkT} {tot:Nat}
theorem Jzw(h:IxV w x f ds kf pf BB tot): Ret Tryz.prog 56 [x] w λu w'=>u=.int .i64 (f:Int)/\Ext w w':=by
 obtain⟨DA,dc,BA,cb,KA,ck,PA,cp,tv,G,D,rfl,J,O,hD,hB,hK,hP,o,hv⟩:=h.ex;obtain⟨TA,tc,rfl,_⟩:=id o;refine enE Tryz.func56 Tryz.ntmps56 ?_;refine bxR ?_;intro Z b j hb C;refine ldR (C.at (i:=0) rfl) ?_;refine ρ ?_;exact Jq ⟨rfl,j⟩
theorem Qzs(h:IxV w x f ds kf pf BB tot)(hv:v<f): Ret Tryz.prog 112 [x,.int .i64 (v:Int)] w λu w'=>u=.bool true/\Ext w w':=by
 obtain⟨DA,dc,BA,cb,KA,ck,PA,cp,tv,G,D,rfl,O,Z,hD,hB,hK,hP,o,J⟩:=h.ex;obtain⟨TA,tc,rfl,_⟩:=id o;refine enE Tryz.func112 Tryz.ntmps112 ?_;refine bxR ?_;intro w1 b j hb C;refine ktR 7 ?_ ?_
 .grind
 refine ldR (C.at (i:=0) rfl) ?_;refine ρ ?_;refine Jq ⟨?_,j⟩;grind
theorem Jzv(h:IxV w x f ds kf pf BB tot)(hn:Nb tot): Ret Tryz.prog 9 [x] w λu w'=>NatV w' u tot/\Fresh w u/\Ext w w':=by
 obtain⟨DA,dc,BA,cb,KA,ck,PA,cp,tv,O,J,rfl,Z,a1,hD,hB,hK,hP,o,hv⟩:=h.ex;obtain⟨TA,tc,rfl,_⟩:=id o;refine enE Tryz.func9 Tryz.ntmps9 ?_;refine bxR ?_;intro w1 b j hb G;refine ldR (G.at (i:=4) rfl) ?_;refine clR (Jvf (o.ext j) hn.len) ?_;rintro u w2 ⟨h2,D,C⟩;refine ρ ?_;exact Jq ⟨h2,λad m c e=>nL j.size (D ad m c e),j.trans C⟩
theorem Jmg(h:IxV w x f ds kf pf BB tot): Ret Tryz.prog 117 [x] w λu w'=>(∃ A c,u=.slice A f c/\f<=c/\Rd w' 3 A f (Qf f (Qo kf pf))/\∀ ad,A=some ad->w.heap.size<=ad.block)/\Ext w w':=by
 obtain⟨DA,dc,BA,cb,KA,ck,PA,cp,tv,a1,Z,rfl,a2,a3,hD,hB,hK,hP,C,hv⟩:=h.ex;obtain⟨TA,tc,rfl,_⟩:=id C;have f32:=h.f32;refine enE Tryz.func117 Tryz.ntmps117 ?_;refine bxR ?_;intro w1 b j hb O;refine ldR (O.at (i:=1) rfl) ?_;refine clR (Qvw (hB.ext j) (Qkt _ _ _) om) ?_;rintro _ w2 ⟨⟨A2,c2,rfl,G,J,D⟩,o⟩;refine ρ ?_;exact Jq ⟨⟨A2,c2,rfl,G,J,λad e=>nL j.size (D ad e)⟩,j.trans o⟩
theorem zIntv: Qa Tryz.prog 3=some (.int .i64 0):=kr
theorem Xws(w:World): (Instr.build 152 #[]).run Tryz.prog w=.ok (.agg #[.bool false,.pointer none]) w:=kr
theorem Jvp{w0:World}(hTB:TB B0 w)(h0:Ext w0 w)(h:IxV w0 x f ds kf pf BB tot)(hv:v<f)(hk:RdR w A k)(hfit:FitR k):
  Ret Tryz.prog 80 [x,.int .i64 (v:Int),.slice A k.length c] w λu w'=>∃ d p,u=.tuple #[.agg #[.bool d,.pointer p],.bool (Zg (BB v) k).isSome]/\TrV (λ_=>False) w0 (trK (BB v) k) (.pointer p)/\((Zg (BB v) k).isSome=true->d=ds.getD v false)/\Ext w w':=by
 obtain⟨DA,dc,BA,cb,KA,ck,PA,cp,tv,a8,aj,rfl,b4,b5,hD,hB,hK,hP,ao,an⟩:=id h.ex;obtain⟨TA,tc,rfl,_⟩:=id ao;obtain⟨av,mb,m,fm,b9,hm,⟨hM,_⟩,au⟩:=an v hv;have aq:aj[v]?=some (.map (some mb)):=by grind
 have ac:a8[v]?=some (a8.getD v (.slice none 0 0)):=by
  have:=hK.len;grind
 refine enE Tryz.func80 Tryz.ntmps80 ?_;refine bxR ?_;intro w1 b Z hb ag;refine Jv Vp ?_;intro w2 b6 O ad aw;refine Jl (ag.ext O) ?_;refine clR (Qzs (h.ext (h0.trans (Z.trans O))) hv) ?_;rintro _ w3 ⟨rfl,a5⟩;have ab:=(Z.trans O).trans a5;have a3:Ext w3 w3.drew:=(Ext.refl w3).drew;have C:=ab.trans a3;have a1:=h0.trans C;have ah:=((ag.ext O).ext a5).ext a3;refine drR (scq 13 [6]) ?_;refine Jz (ah.at (i:=3) rfl) ?_;refine Jg v (hP.ext a1) hv ?_;refine Jz ((hP.ext a1).cell aq) ?_;refine Jh (Jzz (r:=k) (hTB.ext C) (hk.ext C) (λu hu=>(hfit.2 u hu).1) (by have:=hfit.len;omega) (by have:=hfit.1;omega)) ?_;rintro _ w4 ⟨rfl,J⟩;refine⟨J,?_⟩;have D:=C.trans J;have o:=h0.trans D;refine ρd ?_;refine dmlo KS (hM.ext o) zIntv (Kc hfit) ?_;rw[au];have a2:=((aw.ext a5).ext a3).ext J;cases hix:Zg (BB v) k with
 | none=>
  refine ρd ?_;refine Zc (Xws _) ?_;refine Qp a2 ?_;intro w5 G ar a4;refine ρ ?_;refine Vj G ⟨false,none,rfl,?_,(λh=>by cases h),a4 w D (nL Z.size ad)⟩;rw[Jdf hix];rfl
 | some i=>
  obtain⟨bt,a7,ap,b7⟩:=Qkh hix;obtain⟨ps,GA,gc,ai,ay,b3,az,af,b8,ae⟩:=av;have li:i<ps.length:=by have:=(List.getElem?_eq_some_iff.1 a7).1;rw[ai,List.length_map]at this;exact this
  obtain⟨z,hz⟩:∃ z,z=ps[i]:=⟨_,rfl⟩;have ak:z∈ps:=by rw[hz];exact List.getElem_mem li
  have am:z.2=bt:=by
   rw[ai,List.getElem?_map,List.getElem?_eq_getElem li,<-hz]at a7;simpa using a7
  obtain⟨b2,kv,zq,ax,b1,a9⟩:=ae z ak;obtain⟨zp,rfl⟩:=a9.ptr;have a6:∀ j u,([.bool (ds.getD v false),.pointer zp]:List Value)[j]?=some u->w4.cell? (((adr GA (i*3)).add 1).add j)=some u:=λj u hu=>by
   have hj:j<2:=(List.getElem?_eq_some_iff.1 hu).1;rw[Xx,Xx,Nat.add_assoc];refine(af.ext o).cell ?_;rw[Kd (p:=z) (λp hp=>(ae p hp).1) (by rw[hz];exact gE li) om,ax,Nat.add_comm];exact hu
  rw[ay]at ac;refine ρd ?_;refine ldR ((ah.ext J).at (i:=2) rfl) ?_;refine ixR v (hK.ext o) hv ?_;refine ldR ((hK.ext o).cell ac) ?_;refine Qs 3 i (af.ext o) li ?_;refine Ja (cs:=[.bool (ds.getD v false),.pointer zp]) a6 ?_;refine Qp a2 ?_;intro w5 G ar a4;have aa:=a4 w D (nL Z.size ad);refine ρ ?_;refine Vj G ⟨_,zp,rfl,?_,λ_=>rfl,aa⟩;rw[ap,<-am];exact a9
theorem Jdc(h:IxV w x f ds kf pf BB tot)(hv:v<f)(hy:RdR w A y)(hyc:y.length<=c)(hyl:y.length<=32)(hk:kf v<2^y.length):
  Ret Tryz.prog 81 [x,.int .i64 (v:Int),.slice A y.length c] w λu w'=>RowX w' (λk=>k<w.heap.size) u (pmR (bk (kf v) 32) y)/\Ext w w':=by
 obtain⟨DA,dc,BA,cb,KA,ck,PA,cp,tv,ap,ao,rfl,av,aw,hD,hB,hK,hP,ae,aq⟩:=id h.ex;obtain⟨TA,tc,rfl,_⟩:=id ae;have O:kf v<4294967296:=nM hk (Jzb hyl);have an:Je (kf v)<=y.length:=Gl hk;have o:∀ {w'} (hx:Ext w w') j u,(Qo kf pf v)[j]?=some u->w'.cell? ((adr BA (v*3)).add j)=some u:=λhx j u hu=>by
  have hj:j<3:=by grind [Nat.lt_or_ge,List.getElem?_eq_none,Qo]
  rw[Xx];exact(hB.ext hx).cell ((Yk (sz:=3) (λ_ _=>rfl) hv hj).trans hu)
 refine enE Tryz.func81 Tryz.ntmps81 ?_;refine bxR ?_;intro w1 b a6 hb aa;refine Jl aa ?_;refine clR (Qzs (h.ext a6) hv) ?_;rintro _ w2 ⟨rfl,a5⟩;have D:=a6.trans a5;have a3:=aa.ext a5;refine ldR (a3.at (i:=1) rfl) ?_;refine Qs 3 v (hB.ext D) hv ?_;refine ldR (o D 1 _ rfl) ?_;refine clR (Qzg (kf v) O w2) ?_;rintro _ ac ⟨rfl,e2⟩;rw[e2];clear e2 ac;refine cfR ?_ ?_
 .grind
 refine Xq Jdt ?_;intro w3 b3 a2 aj am;have Z:=D.trans a2;have a9:=a3.ext a2;refine ldR (a9.at (i:=1) rfl) ?_;refine Qs 3 v (hB.ext Z) hv ?_;refine ldR (o Z 1 _ rfl) ?_;refine clR (Qzg (kf v) O w3) ?_;rintro _ ab ⟨rfl,e3⟩;rw[e3];clear e3 ab;refine ρ ?_;refine Qh (fun (u:Nat) (vk:Value)=>[(1,.int .i64 (v:Int)),(2,.slice A y.length c),(3,.pointer (some ⟨b,0,none⟩)),(7,vk),(32,.int .i64 (Je (kf v):Int)),(33,.int .i64 (u:Int))])
  (λu vk w'=>u<=Je (kf v)/\Ext w2 w'/\w'.ownsRow w2.heap.size 112 3 vk (bk (kf v) u).length (Jo (pmR (bk (kf v) u) y))) (λu _=>Je (kf v)-u) 0 (.slice (some ⟨b3,0,none⟩) 0 0) sB
  ⟨Nat.zero_le _,a2,am.own (n:=0) aj rfl (Nat.zero_le _)⟩ ?_
 rintro u vk w4 ⟨hu,C,J⟩;have G:=D.trans C;have a8:=a3.ext C;refine ciR (λh=>?_) (λh=>?_)
 .have lu:u<Je (kf v):=by have:=oT h;omega
  clear h;refine ldR (a8.at (i:=1) rfl) ?_;refine Qs 3 v (hB.ext G) hv ?_;refine ldR (o G 1 _ rfl) ?_;refine ρ ?_;refine Ia (s:=kf v) (v:=u) om ?_;refine ρ ?_;rw[Kl O];refine ci (λh=>?_) (λh=>?_)
  .have a4:=hy.ext G;refine Qs 3 u a4 om ?_;refine Ja (cs:=(y.getD u V0).cells) (λj u' a7=>RdR.cell a4 om a7) ?_;refine Xq (Qyk (y.getD u V0)) ?_;intro w5 b5 a1 b1 ak;obtain⟨A3,c3,rfl,ax,ag⟩:=Jy J;have ay:=Us (kf v) u;refine ρ ?_;refine apb (m':=1) (news:=(y.getD u V0).cells) EV (Jk J a1) (ak.rd (n:=1) rfl) (V.one _) (by unfold maxLen;omega) om (C.trans a1).size ?_;intro v6 w6 ar af au;have e:bk (kf v) (u+1)=bk (kf v) u++[u]:=by rw[Jjp,h];simp
   refine ρ ?_;refine Qk (u+1) v6 sO ⟨lu,Qt (C.trans a1) af (λg eg=>(ag g eg).1),?_⟩ om;grind [pmR,bk,kf,V0,List.length_append,List.length_singleton,rowC_app',Jo]
  have e:bk (kf v) (u+1)=bk (kf v) u:=by rw[Jjp,h];simp
  refine ρ ?_;refine Qk (u+1) vk sO ⟨lu,C,by rw[e];exact J⟩ om
 have a7:u=Je (kf v):=by have:=oF h;omega
 clear h;have e:bk (kf v) u=bk (kf v) 32:=by grind [Qyw,Jvl]
 rw[e]at J;obtain⟨A2,c2,rfl,ai,ah⟩:=Jy J;have az:=Us (kf v) 32;refine ρ ?_;refine Jq ⟨⟨A2,c2,by rw[Xr],by rw[Xr];exact ai,by rw[Xr];omega,by unfold RdR;rw[Xr];exact Rd.own J,λ_ ad e=>?_⟩,G⟩;have:=(ah ad.block (by rw[e];simp[Value.ownBlock])).1;have:=D.size;omega
end
end Go.Proofs.YtcdccafgdnblaaaGreatDoor
namespace Go.Wk
open Go.RowKit
open Go.Maps (Keyed)
variable {f:Lit->Option Value}{b k m r:Nat}{x:Operand}
def RgS(P:Program)(k:TypeId)(w:World)(b r n:Nat)(f:Lit->Option Value)(left:Lit->Bool)(cnt:Nat): Prop :=
 ∃ D:DV,w.ranges P k RT b r n D left cnt/\(∀ kl,Maps.has D kl=(f kl).isSome)/\∀ kl zd,D.atKey kl zd=(match f kl with|some v=>.held v|none=>zd)
section
variable {P:Program} {k:TypeId} {w w':World} {b r n cnt:Nat} {f:Lit->Option Value} {left:Lit->Bool}
theorem RgS.gr{N:Nat->Prop}(h:RgS P k w b r n f left cnt)(hg:GrN N w w')(hb:¬ N b)(hr:¬ N r): RgS P k w' b r n f left cnt:=by
 obtain⟨D,G,O⟩:=h;have C:=G.owns.lt;have u:=G.lt;obtain⟨es,j,i,o,c0,e1,F,hs,J,Z,rest⟩:=G;exact⟨D,⟨es,j,i,o,c0,(hg.block b C hb).trans e1,F,hs,J,(hg.block r u hr).trans Z,rest⟩,O⟩
theorem RgS.ext(h:RgS P k w b r n f left cnt)(hx:Ext w w'): RgS P k w' b r n f left cnt:=h.gr (N:=λ_=>False) (GrN.ext hx) (λe=>e) (λe=>e)
theorem RgS.lt(h:RgS P k w b r n f left cnt): r<w.heap.size:=by obtain⟨D,i,_⟩:=h;exact i.lt
end
section
variable {P:Program} {n:Nat} {al:AL} {w:World} {Q:Exit->Act->World->Prop} {ops:Array Oper} {rest:List Oper}
variable {d ty:Nat} {pos:String} {aft:Array Edge} {tt:TT}
theorem rngm[hT:Tab P tt]{t e:Nat}{kd:TK}(K:Keyed P k)(hM:MapS P k w b m f)(kk:∀ w1 r cnt,Ext w w1->w.heap.size<=r->RgS P k w1 b r m f (λkl=>(f kl).isSome) cnt->WL P n ops Q rest ((d,.pointer (some ⟨r,0,none⟩))::al) w1)(ht:tk tt t=some kd:=by rfl)(hk:kd.desc=.map k e:=by rfl)(hx:ev al x=some (.map (some b)):=by rfl)(hd:Nat.blt d n=true:=by rfl):
  WL P n ops Q (⟨some d,.range t x,ty,pos,aft,none⟩::rest) al w:=by
 obtain⟨D,O,C,J⟩:=hM;obtain⟨w',j,u,o,_⟩:=O.range K (Yd hT.ok ht hk rfl);have Z:Maps.has D=λkl=>(f kl).isSome:=funext C;rw[Z]at u;refine wop hd (λa G=>?_) (kk w' w.heap.size _ ⟨o.os,o.tape,o.output,o.size,λi hi=>o.block i hi (by simp)⟩ (nR _) ⟨D,u,C,J⟩);simp[execOp,G.ev hx,j]
theorem nxtm{cnt:Nat}{left:Lit->Bool}(K:Keyed P k)(h:RgS P k w b r m f left cnt)(kd:(∀ kl,left kl=false)->WL P n ops Q rest ((d,.tuple #[.bool false])::al) w)(km:∀(key v:Value) (kl:Lit) (w1:World) (cnt':Nat),keyOf P k key=some kl->left kl=true->f kl=some v->RgS P k w1 b r m f (λz=>left z && !z.sameKey kl) cnt'->cnt'<cnt->GrN (λi=>i=r) w w1 ->
  (Instr.entry (.pointer (some ⟨r,0,none⟩))).run P w1=.ok (.tuple #[key,v]) w1->WL P n ops Q rest ((d,.tuple #[.bool true,key,v])::al) w1)(hx:ev al x=some (.pointer (some ⟨r,0,none⟩)):=by rfl)(hd:Nat.blt d n=true:=by rfl): WL P n ops Q (⟨some d,.next x false,ty,pos,aft,none⟩::rest) al w:=by
 obtain⟨D,h1,h2,G⟩:=h;rcases h1.next K ty with⟨h0,O,j⟩|⟨key,v,kl,y,w',cnt',hkey,hlk,hv,hat,j,hrg,hlt,hgr,hsz,hen⟩
 .exact wop hd (λa C=>by simp[execOp,C.ev hx,j]) (kd O)
 have J:y=(.held v,[]):=by simpa [RT] using hv.symm
 have Z:f kl=some v:=by
  have o:=hat (.map []);rw[G,J]at o;cases hfk:f kl with
  | none=>rw[hfk]at o;cases o
  | some u=>rw[hfk]at o;injection o with o;rw[o]
 exact wop hd (λa C=>by simp[execOp,C.ev hx,j]) (km key v kl w' cnt' hkey hlk Z ⟨D,hrg,h2,G⟩ hlt (GrN.by hgr λi hi=>by injection hi with hi;exact hi.symm) hen)
theorem entm{key v:Value}(hen:(Instr.entry (.pointer (some ⟨r,0,none⟩))).run P w=.ok (.tuple #[key,v]) w)(kk:WL P n ops Q rest ((d,.tuple #[key,v])::al) w)(hx:ev al x=some (.pointer (some ⟨r,0,none⟩)):=by rfl)(hd:Nat.blt d n=true:=by rfl): WL P n ops Q (⟨some d,.entry x,ty,pos,aft,none⟩::rest) al w :=
 wop hd (λa i=>by simp[execOp,i.ev hx,hen]) kk
end
end Go.Wk
namespace Go.Proofs.YtcdccafgdnblaaaGreatDoor
namespace Pl
variable {m n v:Nat}{x y:Row}
section
variable {α:Type} {X:AX α}
def AX.Gp(X:AX α)(y:List α): Prop:=∀ v,v<y.length->y.getD v X.d0∈(X.E v (X.key v (y.take v))).map (·.1)
theorem AX.Gp.nil: X.Gp []:=λv h=>by simp at h
theorem AX.Gp.snoc{y:List α}(h:X.Gp y){a:α}(ha:a∈(X.E y.length (X.key y.length y)).map (·.1)): X.Gp (y++[a]):=λv i=>by
 rw[List.length_append,List.length_singleton]at i;by_cases e:v=y.length
 .grind
 rw[Jvw om,List.take_append_of_le_length om];exact h v om
theorem getD_take(d0:α){y:List α}(h:v<m): (y.take m).getD v d0=y.getD v d0:=by simp[List.getD,h]
theorem AX.Gp.pre{y:List α}(h:X.Gp y)(m:Nat): X.Gp (y.take m):=λv i=>by
 rw[List.length_take]at i;rw[getD_take X.d0 om,List.take_take,Nat.min_eq_left om];exact h v om
theorem Jtk(d0:α){y:List α}(h:y.length=n+1): y=y.take n++[y.getD n d0]:=by
 have e:y.getD n d0=y[n]:=by grind
 rw[e,<-List.take_succ_eq_append_getElem,List.take_of_length_le om]
theorem Qgv{l:List (α×Nat)}{p:α×Nat}(h:p∈l): p.2<=tot l:=by
 induction l with
 | nil=>cases h
 | cons q l ih=>
  grind [tot,List.mem_cons.1]
theorem AX.Ok.pend_snoc(h:X.Ok){y:List α}(hm:y.length<X.F){a:α}(ha:a∈(X.E y.length (X.key y.length y)).map (·.1)): X.pend (y.length+1) (y++[a])<=X.pend y.length y:=by
 obtain⟨p,hp,rfl⟩:=List.mem_map.1 ha;rw[h.pend_next hm hp,h.pend_split hm];exact nO _ (Qgv hp)
theorem AX.Ok.pend_le(h:X.Ok): ∀(n:Nat) (y:List α),y.length=n->n<=X.F->X.Gp y->X.pend n y<=X.pend 0 []
 | 0,y,e,_,_=>by grind
 | n+1,y,e,hF,hg=>by
  have h1:=Jtk X.d0 e;have hl:(y.take n).length=n:=by grind
  have h2:=h.pend_le n (y.take n) hl om (hg.pre n);have h3:=h.pend_snoc (y:=y.take n) (a:=y.getD n X.d0) om (by rw[hl];exact hg n om);grind
theorem AX.Ok.others_le(h:X.Ok){y:List α}(hm:y.length<X.F)(hp:0<X.pend y.length y): 0<X.others y.length y/\X.others y.length y<=X.pend y.length y:=by
 rw[h.pend_split hm]at hp ⊢;have j:=Nat.pos_of_mul_pos_right hp;have i:=Nat.pos_of_mul_pos_left hp;refine⟨by grind,?_⟩;have:0<X.T y.length y:=by grind
 calc X.others y.length y=1*X.others y.length y:=(Nat.one_mul _).symm
  _<=_:=nO _ this
def AX.prodS(X:AX α)(S:Nat->Bool)(y:List α): Nat:=Jf X.F λc=>if S c=true then X.T c y else 1
end
theorem Lt.filter{ds:List Bool}{l:List Row}(h:Lt ds l)(q:Row->Bool): Lt ds (l.filter q):=h.sublist List.filter_sublist
section
variable {X:IX} {ds:List Bool}
theorem AX.gp_iff(hx:x∈X.ext n y)(hm:m<=y.length+n)(hg:X.Gp y): X.Gp (x.take m):=by
 obtain⟨u,o,j⟩:=(AX.ext_mem n y x).1 hx;intro v i;rw[List.length_take]at i;rw[getD_take X.d0 om,List.take_take,Nat.min_eq_left om];rcases Nat.lt_or_ge v y.length with h4|h4
 .have:=hg v h4;grind
 repeat grind
theorem AX.ext_gp(hx:x∈X.ext X.F [])(m:Nat): X.Gp (x.take m):=by
 have i:=((AX.ext_mem X.F [] x).1 hx).1;rw[List.length_nil,Nat.zero_add]at i;rcases Nat.lt_or_ge X.F m with h|h
 .rw[List.take_of_length_le om];have:=AX.gp_iff (m:=X.F) hx (by simp) AX.Gp.nil;grind
 repeat grind [AX.gp_iff,AX.Gp.nil]
theorem AX.Srt.within(h:X.Srt ds)(hy:y.length<=X.F)(hg:X.Gp y): (X.ext X.F []).filter (λx=>decide (x.take y.length=y))=X.ext (X.F-y.length) y:=by
 refine Kx ((h.ext X.F [] (by simp)).filter _) (h.ext _ y om) λx=>?_;rw[List.mem_filter,AX.ext_mem,AX.ext_mem,decide_eq_true_eq];simp only[List.length_nil,Nat.zero_add,List.take_zero,true_and,Nat.zero_le,true_implies];constructor
 .grind
 rintro⟨u,i,o⟩;refine⟨⟨om,λv j=>?_⟩,i⟩;rcases Nat.lt_or_ge v y.length with h4|h4
 .have:=hg v h4;grind
 repeat grind
theorem AX.within_none(hg:¬ X.Gp y): (X.ext X.F []).filter (λx=>decide (x.take y.length=y))=[]:=by grind [List.filter_eq_nil_iff,AX.ext_gp]
end
end Pl
open Pl Go.Wk
variable {c m:Nat}{y:Row}
def Xf(f:Nat)(kf:Nat->Nat)(pf:Nat->Int)(BB:Nat->List BkT): IX:=⟨V0,f,λv=>bk (kf v) 32,pf,λv k=>entK (BB v) k⟩
structure IxP(f:Nat)(ds:List Bool)(kf:Nat->Nat)(pf:Nat->Int)(BB:Nat->List BkT)(tot:Nat)(L:List Row): Prop where
 len:tot=L.length
 nil:tot=0->∀ v,BB v=[]
 ok:tot≠0->(Xf f kf pf BB).Ok
 srt:tot≠0->(Xf f kf pf BB).Srt ds
 ans:tot≠0->L=(Xf f kf pf BB).ext f []
 big:∀ v k,(trK (BB v) k).sum<=4294967296^20
 siz:∀ v k,(trK (BB v) k).sz<=65536
 fit:∀ v b,b∈BB v->∀ p∈b.2.toL,Xs p.1/\p.1.bytes.length<=24
 f32:f<=32
 kv:∀ v,v<f->kf v<2^v
section
variable {f:Nat} {ds:List Bool} {kf:Nat->Nat} {pf:Nat->Int} {BB:Nat->List BkT} {tot:Nat} {L:List Row}
theorem Qbm(c:Nat)(y:Row): (Xf f kf pf BB).T c y=(trK (BB c) (pmR (bk (kf c) 32) y)).sum:=by
 rw[Tr.sum_eq,Jgb];rfl
theorem Jdz(c:Nat)(k:Row): (Xf f kf pf BB).E c k=(trK (BB c) k).toL:=by rw[Jgb];rfl
theorem IxP.one(h:IxP f ds kf pf BB tot L)(v:Nat)(k:Row)(p:V×Nat)(hp:p∈(trK (BB v) k).toL): Xs p.1/\p.1.bytes.length<=24:=by
 unfold trK at hp;cases hf:(BB v).find? λb=>decide (b.1=k) with
 | none=>rw[hf]at hp;cases hp
 | some b=>rw[hf]at hp;exact h.fit v b (List.mem_of_find?_eq_some hf) p hp
theorem IxP.gp(h:IxP f ds kf pf BB tot L)(hg:(Xf f kf pf BB).Gp y): ∀ u∈y,Xs u/\u.bytes.length<=24:=λu j=>by
 obtain⟨i,hi,rfl⟩:=List.getElem_of_mem j;have:=hg i hi;rw[Jdz]at this;obtain⟨p,hp,e⟩:=List.mem_map.1 this;have o:y.getD i (Xf f kf pf BB).d0=y[i]:=by simp[List.getD,hi]
 rw[o]at e;rw[<-e];exact h.one _ _ p hp
theorem fit0: Xs V0/\V0.bytes.length<=24:=⟨⟨⟨by decide,by decide⟩,⟨by decide,by decide⟩⟩,by decide⟩
theorem IxP.fitK(h:IxP f ds kf pf BB tot L)(hg:(Xf f kf pf BB).Gp y)(c:Nat): FitR (pmR (bk (kf c) 32) y):=by
 refine⟨by grind [Xr,Us],λv j=>?_⟩;obtain⟨i,_,rfl⟩:=List.mem_map.1 j;simp only[List.getD];cases hi:y[i]? with
 | none=>exact fit0
 | some u=>exact h.gp hg u (List.mem_of_getElem? hi)
theorem IxP.pend0(h:IxP f ds kf pf BB tot L)(h0:tot≠0): (Xf f kf pf BB).pend 0 []=tot:=by
 have:=(h.ok h0).ext_len f [] (by simp;rfl);rw[<-h.ans h0,<-h.len]at this;exact this.symm
theorem IxP.keyb(h:IxP f ds kf pf BB tot L)(h0:tot≠0)(hc:c<f)(hp:pf c<(m:Int)): kf c<2^m:=by
 refine Nat.lt_pow_two_of_testBit _ λi hi=>?_;cases hb:(kf c).testBit i with
 | false=>rfl
 | true=>
  have j:i<32:=by
   rcases Nat.lt_or_ge i 32 with h'|h'
   .exact h'
   rw[Nat.testBit_lt_two_pow (nM (h.kv c hc) (Nat.pow_le_pow_right (n:=2) (by decide) (show c<=i by have:=h.f32;omega)))]at hb;cases hb
  have:(i:Int)<=pf c:=(h.ok h0).kl c hc i (bk_mem.2 ⟨j,hb⟩);omega
theorem IxP.par(h:IxP f ds kf pf BB tot L)(h0:tot≠0)(hc:c<f): -1<=pf c/\pf c<(c:Int):=(h.ok h0).pl c hc
end
end Go.Proofs.YtcdccafgdnblaaaGreatDoor
namespace Go.Wk
open Go.RowKit
open Go.Maps (Keyed)
variable {key v:Value}
section
variable {P:Program} {n:Nat} {al:AL} {w:World} {Q:Exit->Act->World->Prop} {ops:Array Oper} {rest:List Oper} {d ty:Nat} {op:Op} {pos:String} {aft:Array Edge} {tt:TT}
theorem wopv{w':World}(h:∀ a,Fr n al a->(execOp a.eval ⟨none,op,ty,pos,aft,none⟩).run P w=.ok (.value v) w')(k:WL P n ops Q rest al w'):
  WL P n ops Q (⟨none,op,ty,pos,aft,none⟩::rest) al w:=λa i=>
 wpList_plain rfl λK j=>by
  unfold Oper.wp;rw[h a i,Oper.upon_value];exact j _ _ (k _ i)
theorem mdn[hT:Tab P tt]{t k e b m:Nat}{kd:TK}{f:Lit->Option Value}{x y:Operand}{kl:Lit}(K:Keyed P k)(hM:MapS P k w b m f)(hkey:keyOf P k key=some kl)(kk:∀ w1,MapS P k w1 b m (upL f kl none)->w.grownBy w1 (some b)->WL P n ops Q rest al w1)(ht:tk tt t=some kd:=by rfl)(hk:kd.desc=.map k e:=by rfl)(hx:ev al x=some (.map (some b)):=by rfl)(hy:ev al y=some key:=by rfl):
  WL P n ops Q (⟨none,.call { callee:=.builtin .delete,args:=#[x,y],argTypes:=#[t,k] },ty,pos,aft,none⟩::rest) al w:=by
 obtain⟨w',j,u,o⟩:=hM.drop K (Yd hT.ok ht hk rfl) hkey ty;exact wopv (v:=.tuple #[]) (w':=w') (λa i=>by simp[execOp,resolve,invoke,builtin,i.ev hx,i.ev hy,j]) (kk w' u o)
end
end Go.Wk
namespace Go.Proofs.YtcdccafgdnblaaaGreatDoor
open Go.RowKit Pl Go.Wk
attribute [local irreducible] WC WL QX WD WDB WP WN WG
variable {M' c c' f m':Nat}{S':Nat->Bool}{BA p:Option Addr}
theorem KI: Maps.Keyed Tryz.prog 3:=Maps.int_keyed Tryz.underlying3
theorem Jqs(hc:c<=1000000): keyOf Tryz.prog 3 (.int .i64 (c:Int))=some (.int .i64 (c:Int)):=Maps.keyOf_int_mk Tryz.underlying3 (by
 have j:IntKind.i64.min = -9223372036854775808:=by decide
 have i:IntKind.i64.max=9223372036854775807:=by decide
 simp only[Lit.wf,Bool.and_eq_true,decide_eq_true_eq,j,i];omega)
theorem Qcw: Qa Tryz.prog 152=some (.agg #[.bool false,.pointer none]):=Vp
structure SeK where
 B0: Nat
 w0:World
 w1:World
 mb:Nat
 sb:Nat
 x0:Value
 x1:Value
 x2:Value
 x3:Value
 x4:Value
 BA:Option Addr
 bc:Nat
 f:Nat
 ds:List Bool
 kf:Nat->Nat
 pf:Nat->Int
 BB:Nat->List BkT
 tot:Nat
 L:List Row
def SeK.x(K:SeK): Value:=.agg #[K.x0,K.x1,K.x2,K.x3,K.x4]
def SeK.X(K:SeK): IX:=Xf K.f K.kf K.pf K.BB
def SeK.t(K:SeK)(c:Nat)(y:Row): Tr:=trK (K.BB c) (pmR (bk (K.kf c) 32) y)
theorem SeK.T(K:SeK)(c:Nat)(y:Row): K.X.T c y=(K.t c y).sum:=Qbm c y
theorem SeK.E(K:SeK)(c:Nat)(y:Row): K.X.E c (K.X.key c y)=(K.t c y).toL:=Jdz c _
def PdF(K:SeK)(y:Row)(S:Nat->Bool)(fm:Lit->Option Value): Prop :=
 (∀ c,c<K.f->S c=true->∃ d p,fm (.int .i64 (c:Int))=some (.agg #[.bool d,.pointer p])/\TrV (λ_=>False) K.w0 (K.t c y) (.pointer p)/\(K.t c y≠.nil->d=K.ds.getD c false)) /\
 ∀ kl,fm kl≠none->∃ c:Nat,c<K.f/\S c=true/\kl=.int .i64 (c:Int)
structure SeF(K:SeK): Prop where
 tb:TB K.B0 K.w0
 ix:IxV K.w0 K.x K.f K.ds K.kf K.pf K.BB K.tot
 ip:IxP K.f K.ds K.kf K.pf K.BB K.tot K.L
 ne:K.tot≠0
 e01:Ext K.w0 K.w1
 m1:K.w0.heap.size<=K.mb
 m2:K.mb<K.w1.heap.size
 s1:K.w1.heap.size<=K.sb
 bcl:K.f<=K.bc
 bg:Off (λk=>k=K.mb) K.w1 (λu=>Rd u 3 K.BA K.f (Qf K.f (Qo K.kf K.pf)))
 one:∀ u∈[K.x0,K.x1,K.x2,K.x3,K.x4],u.oneCell'=true
def sCs(K:SeK)(yv:Value)(st:Nat): List Value:=[K.x0,K.x1,K.x2,K.x3,K.x4,.slice K.BA K.f K.bc,yv,.map (some K.mb),.int .i64 (st:Int)]
structure SeM(K:SeK)(w:World)(y:Row)(S:Nat->Bool)(st M:Nat)(yv:Value)(m:Nat)(fm:Lit->Option Value): Prop where
 gr:GrN (λk=>k=K.mb) K.w1 w
 blk:Blk w K.sb 178 (sCs K yv st)
 row:w.ownsRow K.w1.heap.size 112 3 yv y.length (Jo y)
 map:MapS Tryz.prog 3 w K.mb m fm
 mle:m<=M
 pd:PdF K y S fm
def LoB(K:SeK)(B:Nat)(yv:Value): Prop:=K.sb<B/\∀ g,yv.ownBlock=some g->g<B
def SeV(K:SeK)(w:World)(y:Row)(S:Nat->Bool)(st M B:Nat): Prop:=∃ yv m fm,SeM K w y S st M yv m fm/\LoB K B yv
section
variable {K:SeK} {w w':World} {y:Row} {S:Nat->Bool} {st M m B:Nat} {yv:Value} {fm:Lit->Option Value}
theorem SeF.nsm(hF:SeF K): ¬ K.sb=K.mb:=λe=>by have:=hF.m2;have:=hF.s1;omega
theorem SeF.ext(hF:SeF K)(h:GrN (λk=>k=K.mb) K.w1 w): Ext K.w0 w:=h.old hF.e01 λk i=>by rw[i];exact hF.m1
theorem SeM.ext'(h:SeM K w y S st M yv m fm)(hx:Ext w w'): SeM K w' y S st M yv m fm :=
 ⟨h.gr.trans (GrN.ext hx),h.blk.ext hx,Jk h.row hx,h.map.ext hx,h.mle,h.pd⟩
theorem SeM.x5(h:SeM K w y S st M yv m fm)(j:Nat)(u:Value)(hu:[K.x0,K.x1,K.x2,K.x3,K.x4][j]?=some u): w.cell? ((⟨K.sb,0,none⟩:Addr).add j)=some u :=
 Blk.pre (cs:=[K.x0,K.x1,K.x2,K.x3,K.x4]) (ds:=[.slice K.BA K.f K.bc,yv,.map (some K.mb),.int .i64 (st:Int)]) h.blk j u hu
theorem SeV.ext(h:SeV K w y S st M B)(hx:Ext w w'): SeV K w' y S st M B:=by
 obtain⟨yv,m,fm,h,i⟩:=h;exact⟨yv,m,fm,h.ext' hx,i⟩
theorem SeV.top(h:SeV K w y S st M B): SeV K w y S st M w.heap.size:=by
 obtain⟨yv,m,fm,h,o⟩:=h;obtain⟨_,_,_,_,i⟩:=Jy h.row;exact⟨yv,m,fm,h,h.blk.lt,λg j=>(i g j).2⟩
theorem SeM.to(hF:SeF K)(h:SeM K w y S st M yv m fm)(hg:GrN (λk=>k=K.mb) w w'){fm':Lit->Option Value}(hM:MapS Tryz.prog 3 w' K.mb m' fm')(hm:m'<=M')(hp:PdF K y S' fm'): SeM K w' y S' st M' yv m' fm':=by
 refine⟨h.gr.trans hg,Jb h.blk hg hF.nsm,Qj h.row hg λg j e=>?_,hM,hm,hp⟩;obtain⟨_,_,_,_,i⟩:=Jy h.row;have:=(i g j).1;have:=hF.m2;omega
theorem SeV.same(h:SeV K w y S st M B)(e:∀ c,c<K.f->S c=S' c): SeV K w y S' st M B:=by
 obtain⟨yv,m,fm,h,u⟩:=h;refine⟨yv,m,fm,⟨h.gr,h.blk,h.row,h.map,h.mle,λc i hs=>h.pd.1 c i ((e c i).trans hs),λj o=>?_⟩,u⟩;obtain⟨c,G,D,C⟩:=h.pd.2 j o;grind
theorem SeV.more(h:SeV K w y S st M B)(hM:M<=M'): SeV K w y S st M' B:=by
 obtain⟨yv,m,fm,h,i⟩:=h;exact⟨yv,m,fm,⟨h.gr,h.blk,h.row,h.map,Nat.le_trans h.mle hM,h.pd⟩,i⟩
theorem Jcr(hc:c<=1000000): WideAt.IsKeyLit (.int .i64 (c:Int)):=KI.key (Jqs hc)
theorem Jcl(h:Lit.int .i64 (c:Int)=.int .i64 (c':Int)): c=c':=by grind
theorem PdF.put(h:PdF K y S fm)(hf:K.f<=32)(hc:c<K.f){d:Bool}(ht:TrV (λ_=>False) K.w0 (K.t c y) (.pointer p))(hd:K.t c y≠.nil->d=K.ds.getD c false):
  PdF K y (λj=>S j || decide (j=c)) (upL fm (.int .i64 (c:Int)) (some (.agg #[.bool d,.pointer p]))):=by
 constructor
 .intro j u hs;by_cases e:j=c
  .subst e;rw[Kn (Jcr om)];exact⟨d,p,rfl,ht,hd⟩
  rw[Uo λC=>e (Jcl C)];exact h.1 j u (by simpa [e] using hs)
 intro i o;by_cases e:i=.int .i64 (c:Int)
 .grind
 rw[Uo e]at o;obtain⟨j,J,G,D⟩:=h.2 i o;grind
theorem PdF.drop(h:PdF K y S fm)(hf:K.f<=32)(hc:c<K.f): PdF K y (λj=>S j && !decide (j=c)) (upL fm (.int .i64 (c:Int)) none):=by
 constructor
 .intro j u hs;simp only[Bool.and_eq_true,Bool.not_eq_true',decide_eq_false_iff_not]at hs;rw[Uo λC=>hs.2 (Jcl C)];exact h.1 j u hs.1
 intro i o;by_cases e:i=.int .i64 (c:Int)
 .grind [Kn,Jcr]
 rw[Uo e]at o;obtain⟨j,J,G,D⟩:=h.2 i o;grind
theorem SeK.t_app(hF:SeF K)(hc:c<K.f)(hp:K.pf c<(y.length:Int))(z:Row): K.t c (y++z)=K.t c y:=by
 have:=(hF.ip.ok hF.ne).key_pre (y:=y) (z:=z) hc hp;unfold SeK.t;exact congrArg (trK (K.BB c)) this
theorem PdF.app(h:PdF K y S fm)(hF:SeF K)(hS:∀ c,c<K.f->S c=true->K.pf c<(y.length:Int))(z:Row): PdF K (y++z) S fm:=by
 refine⟨λc i hs=>?_,h.2⟩;rw[SeK.t_app hF i (hS c i hs)];exact h.1 c i hs
theorem Qbj{kf:Nat->Nat}{pf:Nat->Int}(hR:Rd w 3 BA f (Qf f (Qo kf pf)))(hc:c<f): ∀ j u,(Qo kf pf c)[j]?=some u->w.cell? ((adr BA (c*3)).add j)=some u:=λj u i=>by
 have o:j<3:=by grind [Nat.lt_or_ge,List.getElem?_eq_none,Qo]
 rw[Xx];exact hR.cell ((Yk (sz:=3) (λ_ _=>rfl) hc o).trans i)
theorem Qcf(hF:SeF K)(hS:SeV K w y S st M B)(hM:M<=4096)(hg:K.X.Gp y)(hyf:y.length<=K.f){v:Int}(hv:v+1=(y.length:Int)):
  Ret Tryz.prog 118 [.pointer (some ⟨K.sb,0,none⟩),.int .i64 v] w λu w'=>u=.tuple #[]/\GrN (λk=>k=K.mb) w w'/\SeV K w' y (λc=>S c || decide (K.pf c=v)) st (M+K.f) B:=by
 have f32:=hF.ip.f32;obtain⟨ao,m0,b3,H0,ae⟩:=id hS;refine enE Tryz.func118 Tryz.ntmps118 ?_;refine ldR (H0.blk.at (i:=5) rfl) ?_;refine ρ ?_;refine Qr (fun (c:Nat)=>[(0,.pointer (some ⟨K.sb,0,none⟩)),(1,.int .i64 v),(11,.slice K.BA K.f K.bc),(12,.int .i64 (K.f:Int)),(13,.int .i64 (c:Int))])
  (λc w'=>c<=K.f/\GrN (λk=>k=K.mb) w w'/\SeV K w' y (λj=>S j || (decide (j<c) && decide (K.pf j=v))) st (M+c) B) (λc=>K.f-c) 0 sB
  ⟨Nat.zero_le _,GrN.refl _ _,hS.same λc _=>by simp⟩ ?_
 clear ae H0 ao m0 b3;rintro c w1 ⟨hc,a9,aa⟩;refine ciR (λh=>?_) (λh=>?_)
 .have O:c<K.f:=by have:=oT h;omega
  clear h;obtain⟨yv,m,fm,H,au⟩:=id aa;have ah:=hF.bg w1 H.gr;refine Qs 3 c ah O ?_;refine Ja (cs:=Qo K.kf K.pf c) (Qbj ah O) ?_;refine Jv Jkx ?_;intro w2 bb ar ay b2;refine Qb (cs':=Qo K.kf K.pf c) b2 ?_ Jzh;intro w3 an ag aq;have J:Ext w1 w3:=aq w1 ar ay;refine ldR (an.at (i:=2) rfl) ?_;refine ciR (λh=>?_) (λh=>?_)
  .have hp:K.pf c=v:=Zf h;clear h;have H3:=H.ext' J;have ad:=hF.ext H3.gr;have a4:Ext w3 w3.drew:=(Ext.refl w3).drew;have Hd:=H3.ext' a4;have D:=ad.trans a4;obtain⟨YA,yc,rfl,ab,_⟩:=Jy Hd.row;have af:=hF.ip.keyb hF.ne O (m:=y.length) (by rw[hp];omega);have Z:=hF.ip.fitK hg c;refine ρ ?_;refine drH (λi=>Nat.ble 20 i) ?_;refine Zz (fuel':=8) 10 [(0,0),(0,1),(0,2),(0,3),(0,4),(0,5),(0,6),(0,7),(0,8),(0,9),(0,10),(0,11),(0,12),(0,13)] (lst 22 14) kr kr rfl ?_;refine Qz (cs:=[K.x0,K.x1,K.x2,K.x3,K.x4]) (λj u hu=>Hd.x5 j u hu) ?_;refine Qz (cs:=[K.x0,K.x1,K.x2,K.x3,K.x4]) (λj u hu=>Hd.x5 j u hu) ?_;refine Jz (Hd.blk.at (i:=6) rfl) ?_;refine ρd ?_;refine Xw ?_;refine Jkb 2 (lst 22 20) (fun (q:Bool×Option Addr×Bool×Nat)=>[(39,.agg #[.bool q.1,.pointer q.2.1]),(40,.bool q.2.2.1),(6,.pointer (some ⟨q.2.2.2,0,none⟩)),(4,.int .i64 (c:Int)),(0,.pointer (some ⟨K.sb,0,none⟩)),(1,.int .i64 v),(11,.slice K.BA K.f K.bc),(12,.int .i64 (K.f:Int)),(13,.int .i64 (c:Int))])
    (λq W=>Ext w3.drew W/\Blk W q.2.2.2 152 [.bool false,.pointer none]/\w3.drew.heap.size<=q.2.2.2/\TrV (λ_=>False) K.w0 (K.t c y) (.pointer q.2.1)/\(K.t c y≠.nil->q.1=K.ds.getD c false)) ?_ ?_
   .rintro⟨d,p,e,b6⟩ W ⟨ap,am,ai,hT,hd⟩;simp only at am ai hT hd;refine Zz (fuel':=0) 10 [(2,20),(2,21)] (lst 22 22) kr kr rfl ?_;refine Qw ?_;refine stW am ?_;intro W2 ak b4 ac;refine Jw (Qe ?_);refine Qw ?_;refine ρ ?_;refine Qe ?_;refine Up (Xw ?_);refine Va kr ?_;have a6:Ext w3 W2:=ac w3 (a4.trans ap) (nL a4.size ai);have HW:=H3.ext' (a6.trans ((Ext.refl W2).drew));have aj:=ak.ext ((Ext.refl W2).drew);refine ρ ?_;refine drN (λ_=>False) 10 (scq 7 [106]) kr ?_;refine ρn ?_;refine nld (Jt (HW.blk.at (i:=7) rfl) (λe=>e)) ?_;refine ρn ?_;refine Xn (cs:=[.bool d,.pointer p]) (λw' hg j u hu=>(Jb aj hg (λe=>e)).at hu) ?_;refine ρn ?_;refine Xa ?_;refine mup KI HW.map (by have:=HW.mle;unfold maxLen;omega) (Jqs (c:=c) om) ?_;intro W3 b1 ag;have a8:GrN (λk=>k=K.mb) W2.drew W3:=GrN.by ag λk hk=>by injection hk with hk;exact hk.symm
    have az:=HW.to hF a8 b1 (M':=M+(c+1)) (by have:=HW.mle;omega) (HW.pd.put f32 O hT hd);refine ρ ?_;refine Qn (c+1) sO ⟨O,((a9.trans (GrN.ext J)).trans (GrN.ext (a6.trans (Ext.refl W2).drew))).trans a8,SeV.same ⟨_,_,_,az,au⟩ λj _=>?_⟩ om;by_cases e:j=c
    .subst e;simp[hp]
    have:(decide (j<c+1))=decide (j<c):=by by_cases h1:j<c<;>simp[h1]<;>omega
    rw[this];simp[e]
   intro rest;have a1:∀ {d:Bool},((Zg (K.BB c) (pmR (bk (K.kf c) 32) y)).isSome=true->d=K.ds.getD c false)->K.t c y≠.nil->d=K.ds.getD c false:=fun {d} h hne=>h (by
    cases hi:Zg (K.BB c) (pmR (bk (K.kf c) 32) y) with
    | none=>exact absurd (Jdf hi) hne
    | some i=>rfl)
   have a7:=Rd.own Hd.row;refine htwo 14 19 kr rfl rfl rfl ?_ ?_
   .refine clR (Jdc (hF.ix.ext D) O a7 ab om af) ?_;rintro uk W1 ⟨⟨KA,kc,rfl,aw,av,a5,_⟩,o⟩;refine Jw (Iu o ?_);refine htwo 15 19 kr rfl rfl rfl ?_ ?_
    .refine clR (Jvp (hF.tb.ext (D.trans o)) (D.trans o) hF.ix O a5 Z) ?_;rintro u W2 ⟨d,p,rfl,hT,hd,C⟩;refine Jw (Iu C ?_);refine Zz (fuel':=4) 10 [(0,16),(0,17)] (lst 22 18) kr kr rfl ?_;refine ρd ?_;refine Xw ?_;refine Uk (fuel':=3) 18 kr kr rfl rfl ?_;refine ρp ?_;refine ρd ?_;refine Xw ?_;refine Zz (fuel':=2) 10 [(1,19)] (lst 22 20) kr kr rfl ?_;refine dalc' (cs:=[.bool false,.pointer none]) Vp ?_;intro W3 b6 G a2 a3;refine Up (Xw ?_);exact rest (d,p,_,b6) _ _ ⟨(o.trans C).trans G,a3,Nat.le_trans (o.trans C).size a2,hT,a1 hd⟩ sB
    refine Jv Vp ?_;intro W2 b6 C a2 a3;refine Jw (Iu C ?_);refine Zz (fuel':=3) 10 [(1,15),(0,16),(0,17)] ((lst 22 18).setIfInBounds 19 true) kr kr rfl ?_;refine Jh (Jvp (hF.tb.ext ((D.trans o).trans C)) ((D.trans o).trans C) hF.ix O (a5.ext C) Z) ?_;rintro u W3 ⟨d,p,rfl,hT,hd,G⟩;refine⟨G,?_⟩;refine ρd ?_;refine Xw ?_;refine Uk (fuel':=2) 18 kr kr rfl rfl ?_;refine ρp ?_;refine ρd ?_;refine Xw ?_;refine hlist (listed':=lst 22 20) kr ?_;exact rest (d,p,_,b6) _ _ ⟨(o.trans C).trans G,a3.ext G,Nat.le_trans o.size a2,hT,a1 hd⟩ sB
   refine Jv Vp ?_;intro W1 b6 o a2 a3;refine Jw (Iu o ?_);refine Zz (fuel':=3) 10 [(1,14),(1,15),(0,16),(0,17)] ((lst 22 18).setIfInBounds 19 true) kr kr rfl ?_;refine Jh (Jdc (hF.ix.ext (D.trans o)) O (Rd.ext a7 o) ab om af) ?_;rintro uk W2 ⟨⟨KA,kc,rfl,aw,av,a5,_⟩,C⟩;refine⟨C,?_⟩;refine Jh (Jvp (hF.tb.ext ((D.trans o).trans C)) ((D.trans o).trans C) hF.ix O a5 Z) ?_;rintro u W3 ⟨d,p,rfl,hT,hd,G⟩;refine⟨G,?_⟩;refine ρd ?_;refine Xw ?_;refine Uk (fuel':=2) 18 kr kr rfl rfl ?_;refine ρp ?_;refine ρd ?_;refine Xw ?_;refine hlist (listed':=lst 22 20) kr ?_;exact rest (d,p,_,b6) _ _ ⟨(o.trans C).trans G,(a3.ext C).ext G,a2,hT,a1 hd⟩ sB
  have hp:¬ K.pf c=v:=Zk h;clear h;refine ρ ?_;refine Qn (c+1) sO ⟨O,a9.trans (GrN.ext J),((aa.ext J).same λj _=>?_).more om⟩ om;by_cases e:j=c
  .subst e;simp[hp]
  have:(decide (j<c+1))=decide (j<c):=by by_cases h1:j<c<;>simp[h1]<;>omega
  rw[this]
 have ax:c=K.f:=by have:=oF h;omega
 subst ax;clear h;refine ρ ?_;refine Un ⟨rfl,a9,aa.same λj hj=>?_⟩;simp[hj]
theorem Qcb(hF:SeF K)(hS:SeV K w y S st M B)(hyf:y.length<K.f)(hs:S y.length=true):
  Ret Tryz.prog 85 [.pointer (some ⟨K.sb,0,none⟩)] w λu w'=>(∃ d p,u=.agg #[.bool d,.pointer p]/\TrV (λ_=>False) K.w0 (K.t y.length y) (.pointer p)/\(K.t y.length y≠.nil->d=K.ds.getD y.length false))/\GrN (λk=>k=K.mb) w w'/\SeV K w' y (λc=>S c && !decide (c=y.length)) st M B:=by
 have f32:=hF.ip.f32;obtain⟨yv,m,fm,H,a2⟩:=id hS;obtain⟨d,p,a6,ht,hd⟩:=H.pd.1 y.length hyf hs;obtain⟨YA,yc,rfl,ae,_⟩:=Jy H.row;refine enE Tryz.func85 Tryz.ntmps85 ?_;refine Jv Vp ?_;intro w1 b1 J ah ac;have H1:=H.ext' J;refine ldR (H1.blk.at (i:=6) rfl) ?_;refine ldR (H1.blk.at (i:=7) rfl) ?_;refine ρ ?_;refine mlk KI H1.map Vp (Jqs (c:=y.length) om) ?_;rw[a6];refine Jv Vp ?_;intro w2 b2 O a7 ab;refine Qp ab ?_;intro w3 aa ag a1;have o:Ext w1 w3:=a1 w1 O a7;have H3:=H1.ext' o;refine ldR (H3.blk.at (i:=7) rfl) ?_;refine ρ ?_;refine mdn KI H3.map (Jqs (c:=y.length) om) ?_;intro w4 a8 a5;have C:GrN (λk=>k=K.mb) w3 w4:=GrN.by a5 λk j=>by injection j with j;exact j.symm
 have ad:K.mb<w.heap.size:=H.map.lt;have l1:=J.size;have l2:=O.size;have n1:¬ b1=K.mb:=om
 have n2:¬ b2=K.mb:=om
 have Z:=Jb aa C n2;refine Jl Z ?_;refine Qp (Jb (ac.ext o) C n1) ?_;intro w5 a9 a4 af;have a3:GrN (λk=>k=K.mb) w w4:=((GrN.ext J).trans (GrN.ext o)).trans C;have G:GrN (λk=>k=b1) w4 w5:=GrN.by a4 λk j=>by injection j with j;exact j.symm
 have D:GrN (λk=>k=K.mb) w w5:=((a3.mono λk _ j=>(.inl j:k=K.mb∨k=b1)).trans (G.mono λk _ j=>.inr j)).mono λk j h=>h.elim id λe=>by omega
 refine ρ ?_;refine Jjj a9 ⟨⟨d,p,rfl,ht,hd⟩,D,_,m,_,H.to hF D (a8.gr G (λe=>n1 e.symm)) H.mle (H.pd.drop f32 hyf),a2⟩
theorem Qcc(hF:SeF K)(hS:SeV K w y S st M B)(hM:M<=4096)(hyf:y.length<K.f)(v:V)(hg:K.X.Gp (y++[v]))(hSp:∀ c,c<K.f->S c=true->K.pf c<(y.length:Int)):
  Ret Tryz.prog 87 [.pointer (some ⟨K.sb,0,none⟩),v.val] w λu w'=>u=.tuple #[]/\GrN (λk=>k<B) w w'/\SeV K w' (y++[v]) (λc=>S c || decide (K.pf c=(y.length:Int))) st (M+K.f) w'.heap.size:=by
 have f32:=hF.ip.f32;obtain⟨yv,m,fm,H,a4⟩:=id hS;obtain⟨YA,yc,rfl,am,Z⟩:=Jy H.row;refine enE Tryz.func87 Tryz.ntmps87 ?_;refine bxR (cs:=v.cells) ?_;intro w1 b1 a5 ap ah;have a1:Ext w1 w1.drew:=(Ext.refl w1).drew;have Hd:=H.ext' (a5.trans a1);have ab:=ah.ext a1;have n1:¬ (Value.slice YA y.length yc).ownBlock=some b1:=λe=>by have:=(Z b1 e).2;omega
 have ns:¬ (Value.slice YA y.length yc).ownBlock=some K.sb:=λe=>(Blk.ne_own Hd.blk Hd.row rfl) e.symm;refine ρ ?_;refine drN (λk=>(Value.slice YA y.length yc).ownBlock=some k) 10 (scq 11 [6,7,110]) kr ?_;refine ρn ?_;refine nld (Jt (Hd.blk.at (i:=6) rfl) ns) ?_;refine ρn ?_;refine Xn (cs:=v.cells) (λw' hg j u hu=>(Jb ab hg n1).at hu) ?_;refine ρn ?_;refine nop ?_;refine bsl (Qyk v) ?_;intro w2 b2 a2 ao ag;refine ρ ?_;refine Js (GrN.ext a2) ?_;have H2:=Hd.ext' a2;refine nop ?_;have a6:K.w1.heap.size<=w2.heap.size:=H2.gr.size;refine apb (m':=1) (news:=v.cells) EV H2.row (ag.rd (n:=1) rfl) (V.one _) (by unfold maxLen;omega) om a6 ?_;intro ak J a3 a9 an;obtain⟨Y3,c3,rfl,aj,ai⟩:=Jy a3;refine ρ ?_;refine Js (GrN.by a9 λk hk=>hk) ?_;refine ρn ?_;refine Xa ?_;have C:GrN (λk=>(Value.slice YA y.length yc).ownBlock=some k) w2 J:=GrN.by a9 λk hk=>hk
 have G:=Jb H2.blk C ns;refine sto (G.at (i:=6) rfl) (G.frozen 6) ?_;have D:Blk (J.setCell ((⟨K.sb,0,none⟩:Addr).add 6) (.slice Y3 (y.length+1) c3)) K.sb 178 (sCs K (.slice Y3 (y.length+1) c3) st):=G.set 6 _;have o:GrN (λk=>k=K.sb) J (J.setCell ((⟨K.sb,0,none⟩:Addr).add 6) (.slice Y3 (y.length+1) c3)):=GrN.set _ rfl;have af:MapS Tryz.prog 3 J K.mb m fm:=H2.map.gr C (λe=>by have:=(Z _ e).1;have:=hF.m2;omega);have aa:=af.gr o (λe=>hF.nsm e.symm);have a7:=Qj a3 o λg eg e=>by rw[e]at eg;exact(Blk.ne_own G a3 rfl) eg.symm
 have O:GrN (λk=>k=K.mb) K.w1 (J.setCell ((⟨K.sb,0,none⟩:Addr).add 6) (.slice Y3 (y.length+1) c3)):=by
  have h1:=((H2.gr.mono λk _ h=>(.inl h:k=K.mb∨K.w1.heap.size<=k)).trans (C.mono λk _ h=>(.inr (Z k h).1:k=K.mb∨K.w1.heap.size<=k))).trans (o.mono λk _ h=>(.inr (by rw[h];exact hF.s1):k=K.mb∨K.w1.heap.size<=k));exact h1.mono λk hk h=>h.elim id λh'=>by omega
 have ac:K.mb<B:=by have:=hF.m2;have:=hF.s1;have:=a4.1;omega
 have a8:GrN (λk=>k<B) w (J.setCell ((⟨K.sb,0,none⟩:Addr).add 6) (.slice Y3 (y.length+1) c3)) :=
  ((GrN.ext ((a5.trans a1).trans a2)).trans (C.mono λk _ h=>a4.2 k h)).trans (o.mono λk _ h=>by rw[h];exact a4.1)
 generalize (J.setCell ((⟨K.sb,0,none⟩:Addr).add 6) (.slice Y3 (y.length+1) c3))=w4 at D o aa a7 O a8
 have ae:SeV K w4 (y++[v]) S st M w4.heap.size:=by
  refine⟨_,m,fm,⟨O,D,?_,aa,H.mle,H.pd.app hF hSp [v]⟩,D.lt,λg eg=>(Jy a7).elim λ_ h=>h.elim λ_ h=>(h.2.2 g eg).2⟩;grind [List.length_append,List.length_singleton,rowC_app',Jo]
 refine ω5 ?_;refine Ul ?_;refine ρn ?_;refine ldR (D.at (i:=6) rfl) ?_;refine clR (Qcf hF ae hM hg (by simp;omega) (v:=((y.length+1:Nat):Int)-1) (by simp)) ?_;rintro u w5 ⟨rfl,ad,h5⟩;refine ρ ?_;refine Un ⟨rfl,a8.trans (ad.mono λk _ h=>by rw[h];exact ac),h5.top.same λc hc=>?_⟩;grind
theorem Qcd(hF:SeF K)(hS:SeV K w y S st M B):
  Ret Tryz.prog 88 [.pointer (some ⟨K.sb,0,none⟩)] w λu w'=>NatV w' u (K.X.prodS S y)/\Fresh w u/\Ext w w':=by
 have f32:=hF.ip.f32;obtain⟨yv,m,fm,H,az⟩:=id hS;obtain⟨g,hg⟩:∃ g:(Lit->Bool)->Nat->Nat,g=λleft c=>if S c=true/\left (.int .i64 (c:Int))=false then K.X.T c y else 1:=⟨_,rfl⟩
 have ap:∀ left c,g left c<=4294967296^20:=λleft c=>by
  rw[hg];simp only;split
  .rw[K.T];exact hF.ip.big _ _
  repeat grind
 have an:∀ left,Nb (Jf K.f (g left)):=λleft=>Nb.pow (k:=K.f) (Jqg (Nat.pow_pos (by decide)) λc _=>ap left c) om;refine enE Tryz.func88 Tryz.ntmps88 ?_;refine clR (Kw 1 (by decide) _) ?_;rintro G w1 ⟨a7,ab,D⟩;refine ldR ((H.blk.ext D).at (i:=7) rfl) ?_;refine ρ ?_;refine rngm KI (H.map.ext D) ?_;intro w2 r cnt Z a6 ae;have lr:w.heap.size<=r:=nL D.size a6;refine ρ ?_;refine Xe (fun (left:Lit->Bool) (cnt:Nat) (G:Value)=>[(0,.pointer (some ⟨K.sb,0,none⟩)),(3,G),(11,.pointer (some ⟨r,0,none⟩))])
  (λleft cnt G w'=>Ext w w'/\RgS Tryz.prog 3 w' K.mb r m fm left cnt/\NatX (λk=>k=r) w' G (Jf K.f (g left))/\Fresh w G) (λ_ cnt _=>cnt) _ cnt G sB ⟨D.trans Z,ae,?_,ab⟩ ?_
 .have e:Jf K.f (g λkl=>(fm kl).isSome)=1:=Jhp λc hc=>by
   rw[hg];simp only;rw[if_neg];rintro⟨h1,h2⟩;obtain⟨d,p,h3,_⟩:=H.pd.1 c hc h1;rw[h3]at h2;cases h2
  rw[e];exact(NatX.old (N:=λ_=>False) ⟨a7,λ_ _ _ _ _ h=>h⟩ λk hk=>.inr (by rw[hk];exact a6)).ext Z
 clear a7 ab ae Z D G cnt;rintro left cnt G w3 ⟨a3,av,a1,aq⟩;refine ρ ?_;refine nxtm KI av (λhl=>?_) (λkey v kl w4 af ay b1 aa ac ao a8 ar=>?_)
 .refine ρ ?_;have e:Jf K.f (g left)=K.X.prodS S y:=Ug λc hc=>by grind
  rw[e]at a1;exact Jq ⟨a1.1,aq,a3⟩
 obtain⟨c,hc,a5,rfl⟩:=H.pd.2 kl (by rw[aa];simp);obtain⟨d,p,J,ht,_⟩:=H.pd.1 c hc a5;rw[aa]at J;injection J with J
 subst J;have O:Ext w w4:=a8.old a3 λk hk=>by rw[hk];exact lr
 refine ρ ?_;refine entm ar ?_;refine Jv Vp ?_;intro w5 b5 ai au ax;refine Qp ax ?_;intro w6 aw b2 ah;have o:Ext w4 w6:=ah w4 ai au;refine Jl aw ?_;refine ρ ?_;have a4:Ext K.w0 w6:=(hF.ext H.gr).trans (O.trans o);refine cl (Jfz (ht.ext a4) (by rw[<-K.T];exact Nb.pow (k:=1) (by rw[Nat.pow_one,K.T];exact hF.ip.big _ _) om)) ?_;rintro ut w7 ⟨aj,b3,C⟩;have am:NatV w7 G (Jf K.f (g left)):=(((a1.gr a8).ext o).ext C).1;refine clR (Jzq am aj (an left).len (Nb.len (Nb.pow (k:=1) (by rw[Nat.pow_one];exact hF.ip.big _ _) om))) ?_;rintro ur w8 ⟨ak,a9,a2⟩;refine ρ ?_;refine Xj _ af ur sO ⟨((O.trans o).trans C).trans a2,((ac.ext o).ext C).ext a2,?_,λad m c e=>?_⟩ ao
 .have ag:r<w7.heap.size:=nM (ac.lt) (o.trans C).size;have e:Jf K.f (g λz=>left z && !z.sameKey (.int .i64 (c:Int)))=Jf K.f (g left)*(K.t c y).sum:=by
   rw[Jwt hc,Jwt (g:=g left) hc];have h1:g left c=1:=by grind
   have h2:g (λz=>left z && !z.sameKey (.int .i64 (c:Int))) c=(K.t c y).sum:=by
    rw[hg];simp only;rw[if_pos ⟨a5,by rw[WideAt.sameKey_self (Jcr om)];simp⟩,K.T]
   rw[h1,h2,Nat.one_mul,Nat.mul_comm];congr 1
   refine Ug λj hj=>?_;by_cases ej:j=c
   .rw[if_pos ej,if_pos ej]
   rw[if_neg ej,if_neg ej,hg];simp only;have:(Lit.int .i64 (j:Int)).sameKey (.int .i64 (c:Int))=false:=Maps.sameKey_ne λe'=>ej (Jcl e');grind
  rw[e];exact a9.x ak λk hk=>by rw[hk];exact ag
 exact nL (((O.trans o).trans C).size) (a9 ad m c e)
end
open Go.RowKit Pl Go.Wk
attribute [local irreducible] WH
variable {L:List Row}{B0 c f k m pc:Nat}{pf:Nat->Int}{BB:Nat->List BkT}{y z:Row}{u x:Value}{w w0:World}
def pS(pf:Nat->Int)(m q:Nat)(c:Nat): Bool:=decide (m<=c) && decide (pf c<(q:Int))
theorem Qjw(K:SeK)(m:Nat)(y:Row): K.X.prodS (pS K.pf m m) y=K.X.pend m y:=Ug λc _=>by
 simp only[pS,Bool.and_eq_true,decide_eq_true_eq];rfl
theorem Qjx(K:SeK)(m:Nat)(y:Row): K.X.prodS (pS K.pf (m+1) m) y=K.X.others m y:=Ug λc _=>by
 simp only[pS,Bool.and_eq_true,decide_eq_true_eq];rfl
theorem Jhw: (pS pf m m c && !decide (c=m))=pS pf (m+1) m c:=by grind [pS]
theorem Jhx(hp:pf c<(c:Int)): (pS pf (m+1) m c || decide (pf c=(m:Int)))=pS pf (m+1) (m+1) c:=by
 unfold pS;grind
def hmB(bs:List BkT): Nat:=bs.foldl (λm b=>max m b.2.ht) 0
theorem foldl_max{bs:List BkT}: ∀ {m:Nat},m<=bs.foldl (λm b=>max m b.2.ht) m/\∀ b∈bs,b.2.ht<=bs.foldl (λm b=>max m b.2.ht) m:=by
 induction bs with
 | nil=>intro m;exact⟨nR _,λb i=>by cases i⟩
 | cons a bs ih=>
  grind
theorem Jsp(bs:List BkT)(k:Row): (trK bs k).ht<=hmB bs:=by
 unfold trK;cases hf:bs.find? λb=>decide (b.1=k) with
 | none=>exact Nat.zero_le _
 | some b=>exact foldl_max.2 b (List.mem_of_find?_eq_some hf)
def wiL(L:List Row)(y:Row): List Row:=L.filter λx=>decide (x.take y.length=y)
theorem Xwv(A B C D E F:Option Addr)(a b c d e f a' b' c' d' e' f':Nat)(mb:Nat)(w:World): (Instr.build 178 #[(0,.agg #[.slice A a a',.slice B b b',.slice C c c',.slice D d d',.slice E e e']),(1,.slice F f f'),(3,.map (some mb))]).run Tryz.prog w=.ok (.agg #[.slice A a a',.slice B b b',.slice C c c',.slice D d d',.slice E e e',.slice F f f',.slice none 0 0,.map (some mb),.int .i64 0]) w:=kr
section
variable {f:Nat} {ds:List Bool} {kf:Nat->Nat} {pf:Nat->Int} {BB:Nat->List BkT} {tot:Nat} {L:List Row}
theorem Xbh(tb:TB B0 w)(ix:IxV w x f ds kf pf BB tot)(ip:IxP f ds kf pf BB tot L)(ne:tot≠0):
  Ret Tryz.prog 84 [x] w λu w'=>∃ K:SeK,(K.w0=w/\K.f=f/\K.ds=ds/\K.kf=kf/\K.pf=pf/\K.BB=BB/\K.tot=tot/\K.L=L)/\u=.pointer (some ⟨K.sb,0,none⟩)/\SeF K/\SeV K w' [] (pS K.pf 0 0) 0 32 w'.heap.size/\Ext w w':=by
 obtain⟨DA,dc,BA,cb,KA,ck,PA,cp,tv,af,ae,rfl,ai,aj,hD,hB,hK,hP,a7,ag⟩:=id ix.ex;obtain⟨TA,tc,rfl,_⟩:=id a7;refine enE Tryz.func84 Tryz.ntmps84 ?_;refine bxR ?_;intro w1 b a6 hb ab;have a2:Ext w1 w1.drew:=(Ext.refl w1).drew;have a4:=ab.ext a2;have C:=a6.trans a2;refine ρ ?_;refine drG kr ?_;refine Jjf (fuel':=5) [(0,0),(0,1)] #[true,true,false,false,false,false,false] kr kr rfl ?_;refine Qz (cs:=[.slice DA f dc,.slice BA f cb,.slice KA f ck,.slice PA f cp,.slice TA (Jj tot).length tc]) (λj u hu=>a4.at hu) ?_;refine Qz (cs:=[.slice DA f dc,.slice BA f cb,.slice KA f ck,.slice PA f cp,.slice TA (Jj tot).length tc]) (λj u hu=>a4.at hu) ?_;refine ρd ?_;refine Jjg ?_;refine gcut 3 #[true,true,true,true,false,false,false] (fun (q:Option Addr×Nat×Nat)=>[(4,.agg #[.slice DA f dc,.slice BA f cb,.slice KA f ck,.slice PA f cp,.slice TA (Jj tot).length tc]),(6,.slice q.1 f q.2.1),(7,.map (some q.2.2))])
  (λq W=>Ext w1.drew W/\f<=q.2.1/\w1.drew.heap.size<=q.2.2/\MapS Tryz.prog 3 W q.2.2 0 (λ_=>none)/\Off (λk=>k=q.2.2) W (λu=>Rd u 3 q.1 f (Qf f (Qo kf pf)))) ?_ ?_
 .rintro⟨A,c,O⟩ w2 ⟨o,D,hm,J,G⟩;simp only at D hm J G;refine Jjf (fuel':=0) [(1,4),(1,5),(0,6)] #[true,true,true,true,true,true,true] kr kr rfl ?_;refine Gr ?_;refine bld (Xwv _ _ _ _ _ _ _ _ _ _ _ _ _ _ _ _ _ _ _ _) ?_;refine Jw (Gn (Ext.refl _) ?_);refine Gr ?_;refine bx ?_;intro w3 sb i a8 a3;refine Jw (Gn i ?_);refine ρd ?_;refine Jjg ?_;refine gend kr ?_;obtain⟨K,hK⟩:∃ K:SeK,K=⟨B0,w,w2,O,sb,.slice DA f dc,.slice BA f cb,.slice KA f ck,.slice PA f cp,.slice TA (Jj tot).length tc,A,c,f,ds,kf,pf,BB,tot,L⟩:=⟨_,rfl⟩;have hF:SeF K:=by
   subst hK;exact⟨tb,ix,ip,ne,C.trans o,Nat.le_trans C.size hm,J.lt,a8,D,G,Jlb⟩
  have hV:SeV K w3 [] (λ_=>false) 0 0 w3.heap.size:=by
   subst hK;exact⟨.slice none 0 0,0,λ_=>none,⟨GrN.ext i,a3,Zd _ _ _ _,J.ext i,Nat.le_refl _,λc _ h=>(by cases h),λkl h=>absurd rfl h⟩,a3.lt,λg eg=>by simp[Value.ownBlock]at eg⟩
  have a5:K.w0=w/\K.f=f/\K.ds=ds/\K.kf=kf/\K.pf=pf/\K.BB=BB/\K.tot=tot/\K.L=L:=by grind
  have ac:sb=K.sb:=by subst hK;rfl
  have a1:=(C.trans o).trans i;have em:w.heap.size<=K.mb:=by rw[<-a5.1];exact hF.m1
  have f32:K.f<=32:=hF.ip.f32;subst ac;refine clR (Qcf hF hV om AX.Gp.nil (by simp) (v:=-1) rfl) ?_;rintro u w4 ⟨rfl,a9,aa⟩;refine ρ ?_;refine Jq ⟨K,a5,rfl,hF,(aa.top.same λc D=>?_).more om,a9.old a1 λk hk=>by rw[hk];exact em⟩;have:=hF.ip.par hF.ne D;unfold pS;grind
 intro rest;refine gtwo 2 3 kr rfl rfl rfl ?_ ?_
 .refine clR (Jmg (ix.ext C)) ?_;rintro u w2 ⟨⟨A,c,rfl,D,hR,hf⟩,o⟩;refine Jw (Jcs o ?_);refine Jjf (fuel':=3) [(1,3)] #[true,true,true,true,false,false,false] kr kr rfl ?_;refine Gr ?_;refine mkm 3 ?_;intro w3 O i Z J;refine Jw (Gn i ?_);refine Up (Jjg ?_);refine rest (A,c,O) _ _ ⟨o.trans i,D,Nat.le_trans o.size Z,J,Kz (hR.ext i) λh0 ad e (e2:ad.block=O)=>?_⟩ sB;have e:A=some ad:=e;obtain⟨ak,e',ah⟩:=hR.2 h0;grind
 refine ρ ?_;refine mkm 3 ?_;intro w2 O o Z J;refine Jw (Jcs o ?_);refine Jjf (fuel':=3) [(1,2)] #[true,true,true,true,false,false,false] kr kr rfl ?_;refine Gr ?_;refine cl (Jmg (ix.ext (C.trans o))) ?_;rintro u w3 ⟨⟨A,c,rfl,D,hR,hf⟩,i⟩;refine Jw (Gn i ?_);refine Up (Jjg ?_);refine rest (A,c,O) _ _ ⟨o.trans i,D,Z,J.ext i,Kz hR λh0 ad e (e2:ad.block=O)=>?_⟩ sB;have:=hf ad e;have:=J.lt;omega
end
section
variable {K:SeK} {w:World} {y:Row} {S:Nat->Bool} {st M B:Nat}
theorem SeV.steps(hF:SeF K)(h:SeV K w y S st M B)(k:Nat): SeV K (w.setCell ((⟨K.sb,0,none⟩:Addr).add 8) (.int .i64 ((st+k:Nat):Int))) y S (st+k) M B/\GrN (λk=>k=K.sb) w (w.setCell ((⟨K.sb,0,none⟩:Addr).add 8) (.int .i64 ((st+k:Nat):Int))):=by
 obtain⟨yv,m,fm,H,o⟩:=h;have i:GrN (λk=>k=K.sb) w (w.setCell ((⟨K.sb,0,none⟩:Addr).add 8) (.int .i64 ((st+k:Nat):Int))):=GrN.set _ rfl;refine⟨⟨yv,m,fm,⟨?_,H.blk.set 8 _,Qj H.row i λg j e=>?_,H.map.gr i λe=>hF.nsm e.symm,H.mle,H.pd⟩,o⟩,i⟩
 .exact((H.gr.mono λk _ h=>(.inl h:k=K.mb∨k=K.sb)).trans (i.mono λk _ h=>.inr h)).mono λk u h=>h.elim id λe=>by have:=hF.s1;omega
 rw[e]at j;exact(Blk.ne_own H.blk H.row rfl) j.symm
theorem SeF.pnb(hF:SeF K)(m:Nat)(z:Row): Nb (K.X.pend m z):=by
 refine Nb.pow (k:=K.f) (Jqg (Nat.pow_pos (by decide)) λc _=>?_) hF.ip.f32;split
 .rw[K.T];exact hF.ip.big _ _
 repeat grind
theorem SeV.ext0(h:SeV K w y S st M B)(hF:SeF K): Ext K.w0 w:=by
 obtain⟨yv,m,fm,H,_⟩:=h;exact hF.ext H.gr
theorem SeF.has(hF:SeF K)(hc:c<K.f){d:Bool}(hd:K.t c z≠.nil->d=K.ds.getD c false)(v:V):
  Tr.hasT d v (K.t c z)=true↔v∈(K.X.E c (K.X.key c z)).map (·.1):=by
 rw[K.E];by_cases h:K.t c z=.nil
 .rw[h];simp[Tr.hasT,Tr.toL]
 have hs:Ut d (K.t c z).toL:=by
  rw[hd h,<-K.E];exact(hF.ip.srt hF.ne).srt c hc _
 exact(Tr.befT_eq hs).2
end
def AcR(f:Nat)(BB:Nat->List BkT)(L:List Row)(y:Row)(k:Nat)(u:Value)(w:World): Prop:=match(wiL L y)[k]? with
 | some r=>∃ A c,∃ st:Nat,u=.tuple #[.slice A r.length c,.int .i64 (st:Int),.int .i64 0]/\RdR w A r/\r.length<=c/\r.length=f/\st<=Qy f λv=>hmB (BB v)
 | none=>u=.tuple #[.slice none 0 0,.int .i64 0,.int .i64 3]
theorem AcR.none(h:(wiL L y)[k]?=none): AcR f BB L y k (.tuple #[.slice none 0 0,.int .i64 0,.int .i64 3]) w:=by
 unfold AcR;rw[h]
def AcRF(w0:World)(f:Nat)(BB:Nat->List BkT)(L:List Row)(y:Row)(k:Nat)(u:Value)(w:World): Prop:=match(wiL L y)[k]? with
 | some r=>∃ A c,∃ st:Nat,u=.tuple #[.slice A r.length c,.int .i64 (st:Int),.int .i64 0]/\RdR w A r/\r.length<=c/\r.length=f/\(st<=Qy f λv=>hmB (BB v))/\(r≠[]->∀ ad,A=some ad->w0.heap.size<=ad.block)
 | none=>u=.tuple #[.slice none 0 0,.int .i64 0,.int .i64 3]
theorem AcRF.none(h:(wiL L y)[k]?=none): AcRF w0 f BB L y k (.tuple #[.slice none 0 0,.int .i64 0,.int .i64 3]) w:=by
 unfold AcRF;rw[h]
theorem AcRF.weak(h:AcRF w0 f BB L y k u w): AcR f BB L y k u w:=by grind [AcRF,AcR,wiL]
section
variable {f:Nat} {ds:List Bool} {kf:Nat->Nat} {pf:Nat->Int} {BB:Nat->List BkT} {tot:Nat} {L:List Row}
theorem IxP.wi_none(ip:IxP f ds kf pf BB tot L)(ne:tot≠0)(hg:¬ (Xf f kf pf BB).Gp y): wiL L y=[]:=by
 unfold wiL;rw[ip.ans ne];exact AX.within_none hg
theorem IxP.wi_some(ip:IxP f ds kf pf BB tot L)(ne:tot≠0)(hy:y.length<=f)(hg:(Xf f kf pf BB).Gp y): wiL L y=(Xf f kf pf BB).ext (f-y.length) y:=by
 unfold wiL;rw[ip.ans ne];exact(ip.srt ne).within hy hg
theorem IxP.nbP(ip:IxP f ds kf pf BB tot L)(m:Nat)(z:Row): Nb ((Xf f kf pf BB).pend m z):=by
 refine Nb.pow (k:=f) (Jqg (Nat.pow_pos (by decide)) λc _=>?_) ip.f32;split
 .rw[Qbm];exact ip.big _ _
 repeat grind
theorem IxP.nbT(ip:IxP f ds kf pf BB tot L): Nb tot:=by
 by_cases h:tot=0
 .rw[h];exact(ip.nbP 0 []).le (Nat.zero_le _)
 rw[<-ip.pend0 h];exact ip.nbP 0 []
theorem Xbg{kv:Value}{PA:Option Addr}(tb:TB B0 w)(ix:IxV w x f ds kf pf BB tot)(ip:IxP f ds kf pf BB tot L)(hO:tot≠0->∀ z,(Xf f kf pf BB).Gp z->z.length<f->0<(Xf f kf pf BB).pend z.length z->(Xf f kf pf BB).others z.length z<4294967296)(hy:RdR w PA y)(hk:NatV w kv k):
  Ret Tryz.prog 44 [x,.slice PA y.length pc,kv] w λu w'=>Ext w w'/\(f<y.length->u=.tuple #[.slice none 0 0,.int .i64 0,.int .i64 6])/\(y.length<=f->AcRF w f BB L y k u w'):=by
 obtain⟨DA,dc,BA,cb,KA,ck,dn,cp,tv,f3,ez,rfl,fh,fi,hD,hB,hK,hP,dz,f7⟩:=id ix.ex;obtain⟨TA,tc,rfl,_⟩:=id dz;obtain⟨kA,bj,rfl,_⟩:=id hk;have f32:=ip.f32;refine enE Tryz.func44 Tryz.ntmps44 ?_;refine bxR ?_;intro w1 b ai hb aw;refine Jl aw ?_;refine clR (Jzw (ix.ext ai)) ?_;rintro u w2 ⟨rfl,a5⟩;refine ciR (λh=>?_) (λh=>?_)
 .have fb:f<y.length:=by have:=oT h;omega
  refine ρ ?_;exact Vl ⟨ai.trans a5,λ_=>rfl,λh=>om⟩
 have ca:y.length<=f:=by grind
 clear h;refine Jl (aw.ext a5) ?_;refine clR (Jzv (ix.ext (ai.trans a5)) ip.nbT) ?_;rintro u w3 ⟨co,_,az⟩;have a1:=(ai.trans a5).trans az;obtain⟨UA,uc,rfl,_⟩:=id co;refine ciR (λh=>?_) (λh=>?_)
 .have h0:tot=0:=by
   have:=Zf h;grind [Nat.eq_zero_or_pos,tot,limbs_pos']
  refine ρ ?_;refine Vl ⟨a1,λh=>om,λ_=>AcRF.none ?_⟩;have:L=[]:=List.eq_nil_of_length_eq_zero (by rw[<-ip.len];exact h0);rw[this];rfl
 have ne:tot≠0:=λe=>by
  have:=Zk h;grind [limbs_0]
 clear h;refine Jl ((aw.ext a5).ext az) ?_;refine clR (Xbh (tb.ext a1) (ix.ext a1) ip ne) ?_;rintro u w4 ⟨K,⟨e0,rfl,rfl,rfl,rfl,rfl,rfl,rfl⟩,rfl,C,dd,dx⟩;have Z:Ext w K.w0:=by rw[e0];exact a1
 have eh:Blk K.w0 b 45 [.slice DA K.f dc,.slice BA K.f cb,.slice KA K.f ck,.slice dn K.f cp,.slice TA (Jj K.tot).length tc]:=by rw[e0];exact(aw.ext a5).ext az
 clear e0 aw ai a5 az a1 co;have bq:∀ c,c<K.f->K.pf c<(c:Int):=λc hc=>(C.ip.par ne hc).2;have b3:K.X.Ok:=C.ip.ok ne;have d2:∀ v z,(K.t v z).ht<=hmB (K.BB v):=λv z=>Jsp _ _;have bb:∀ v z,(K.t v z).ht<=65536:=λv z=>nL (Tr.ht_le _) (C.ip.siz _ _);have an:∀ v z,Nb (K.t v z).sum:=λv z=>Nb.pow (k:=1) (by rw[Nat.pow_one];exact C.ip.big _ _) om;have cr:∀ v z,(K.t v z).sz<=1000000:=λv z=>nL (C.ip.siz _ _) (by decide);refine ρ ?_;refine Qh (fun (i:Nat) (st:Nat)=>[(2,.slice kA (Jj k).length bj),(3,.pointer (some ⟨b,0,none⟩)),(6,.slice none 0 0),(7,.int .i64 0),(8,.int .i64 0),(9,.pointer (some ⟨K.sb,0,none⟩)),(35,.slice PA y.length pc),(36,.int .i64 (y.length:Int)),(37,.int .i64 (i:Int))])
  (λi st w'=>i<=y.length/\K.X.Gp (y.take i)/\SeV K w' (y.take i) (pS K.pf i i) st (32*(i+1)) w'.heap.size/\st<=Qy i (λv=>hmB (K.BB v))/\st<=65536*i) (λi _=>y.length-i) 0 0 sB
  ⟨Nat.zero_le _,AX.Gp.nil,dd,Nat.le_refl _,Nat.le_refl _⟩ ?_
 clear dd dx w4;rintro i st w5 ⟨hi,ap,G,bp,bo⟩;have bl:=Z.trans (G.ext0 C);have ao:(y.take i).length=i:=by rw[List.length_take];omega
 refine ciR (λh=>?_) (λh=>?_)
 .have li:i<y.length:=by have:=oT h;omega
  have ec:i<K.f:=om
  clear h;have cd:=Rd.ext hy bl;refine Qs 3 i cd li ?_;refine Ja (cs:=(y.getD i V0).cells) (λj u' aj=>RdR.cell cd li aj) ?_;refine Jv (cs:=V0.cells) Vb ?_;intro w6 dm J da ax;refine Qb (cs':=(y.getD i V0).cells) ax ?_ (V.one _);intro w7 ei c3 a4;have ce:Ext w5 w7:=a4 w5 J da;have aa:Ext w7 w7.drew:=(Ext.refl w7).drew;have a2:=(G.ext ce).ext aa;have bg:=ei.ext aa;have el:K.mb<w5.heap.size:=by obtain⟨_,_,_,H,_⟩:=G;exact H.map.lt
  have b5:¬ dm=K.mb:=om
  refine ρ ?_;refine drN (λk=>k=K.mb) 10 [(0,0),(0,2),(1,1),(1,3),(0,4),(0,5),(0,6),(0,7),(0,8),(0,9),(0,10)] kr ?_;refine ρn ?_;refine Xn (cs:=(y.getD i V0).cells) (λw' hg j u hu=>(Jb bg hg b5).at hu) ?_;refine ρn ?_;refine nop ?_;refine cl (Qcb C a2 om (by grind [pS])) ?_;rintro u w8 ⟨⟨d,p,rfl,hT,hd⟩,d4,b4⟩;rw[ao]at hT hd b4;refine ρ ?_;refine Js d4 ?_;refine ρn ?_;refine nop ?_;refine cl (Qbc (hT.ext (b4.ext0 C)) (an _ _) (cr _ _)) ?_;rintro u w9 ⟨sv,q,rfl,hq,f8,ab⟩;refine ρ ?_;refine Js (GrN.ext ab) ?_;refine ρn ?_;have d7:=C.has ec (z:=y.take i) hd (y.getD i V0);refine ciR (λh=>?_) (λh=>?_)
  .have e6:¬ K.X.Gp y:=λhg=>by
    have h1:=hg i li;grind
   refine ρ ?_;refine Vl ⟨Z.trans ((b4.ext ab).ext0 C),λh=>om,λ_=>AcRF.none ?_⟩;rw[C.ip.wi_none ne e6];rfl
  have cc:Tr.hasT d (y.getD i V0) (K.t i (y.take i))=true:=by grind
  clear h;have cx:=d7.1 cc;have ar:=b4.ext ab;have c5:=(Jb bg d4 b5).ext ab;obtain⟨yv,mm,fm,H9,cy⟩:=id ar;refine ldR (H9.blk.at (i:=8) rfl) ?_;have e3:=d2 i (y.take i);have e2:=bb i (y.take i);refine Xt (H9.blk.at (i:=8) rfl) (H9.blk.frozen 8) ?_;obtain⟨bf,bc⟩:=ar.steps C q;obtain⟨ad,b8⟩:∃ ad,ad=w9.setCell ((⟨K.sb,0,none⟩:Addr).add 8) (.int .i64 ((st+q:Nat):Int)):=⟨_,rfl⟩;have bn:w9.setCell ((⟨K.sb,0,none⟩:Addr).add 8) (.int .i64 ((st:Int)+(q:Int)))=ad:=b8.symm;rw[<-b8]at bf bc;have bi:¬ dm=K.sb:=λe=>by have:=cy.1;omega
  have dl:=Jb c5 bc bi;refine Eq.mpr (congrArg _ bn) ?_;refine Ja (cs:=(y.getD i V0).cells) (λj u' aj=>dl.at aj) ?_;have cq:y.take (i+1)=y.take i++[y.getD i V0]:=Xz V0 li;have ac:K.X.Gp (y.take i++[y.getD i V0]):=ap.snoc (by rw[ao];exact cx);refine cl (Qcc C (bf.same λc _=>Jhw) om om (y.getD i V0) ac (λc _ hs=>by
   rw[ao];unfold pS at hs;grind)) ?_
  rintro u dt ⟨rfl,_,a3⟩;rw[<-cq,ao]at a3;rw[<-cq]at ac;refine ρ ?_;refine Qk (i+1) (st+q) sO ⟨li,ac,(a3.same λc hc=>Jhx (bq c hc)).more om,?_,om⟩ om;rw[Qy];omega
 have ed:i=y.length:=by grind
 subst ed;clear h;rw[List.take_length]at ap G;refine clR (Qcd C G) ?_;rw[Qjw];rintro u w6 ⟨cn,d6,J⟩;refine clR (Gg (hk.ext (bl.trans J)) cn) ?_;rintro u w7 ⟨rfl,a4⟩;have a2:=(G.ext J).ext a4;have cm:=C.ip.wi_some ne ca ap;have cj:(wiL K.L y).length=K.X.pend y.length y:=by
  rw[cm];exact b3.ext_len _ y (by show y.length+(K.f-y.length)=K.f;omega)
 refine ciR (λh=>?_) (λh=>?_)
 .have ee:K.X.pend y.length y<=k:=by
   have:=oT h;rcases Nat.lt_or_ge k (K.X.pend y.length y) with h'|h'
   .have:=cmpN_lt.2 h';omega
   exact h'
  refine ρ ?_;exact Vl ⟨Z.trans (a2.ext0 C),λh=>om,λ_=>AcRF.none (List.getElem?_eq_none (by rw[cj];exact ee))⟩
 have c2:k<K.X.pend y.length y:=by
  rcases Nat.lt_or_ge k (K.X.pend y.length y) with h'|h'
  .exact h'
  exact absurd (Int.not_lt.1 λej=>by have:=cmpN_lt.1 ej;omega) (oF h)
 clear h;obtain⟨r,hr⟩:∃ r,(wiL K.L y)[k]?=some r:=⟨_,List.getElem?_eq_getElem (by rw[cj];exact c2)⟩;have d1:NatX (λq=>q=K.mb) w7 (.slice kA (Jj k).length bj) k:=(NatX.old (N:=λ_=>False) ⟨hk,λ_ _ _ _ _ h=>h⟩ λq hq=>.inr (by rw[hq];exact nL Z.size C.m1)).ext (Z.trans (a2.ext0 C));refine ρ ?_;refine Jjt (fun (z:Row) (st:Nat) (o:Nat) (kv:Value)=>[(2,kv),(3,.pointer (some ⟨b,0,none⟩)),(6,.slice none 0 0),(7,.int .i64 0),(8,.int .i64 0),(9,.pointer (some ⟨K.sb,0,none⟩))])
  (λz st o kv w'=>z.length<=K.f/\K.X.Gp z/\o<K.X.pend z.length z/\(K.X.ext (K.f-z.length) z)[o]?=some r/\SeV K w' z (pS K.pf z.length z.length) st (32*(z.length+1)) w'.heap.size/\NatX (λq=>q=K.mb) w' kv o/\st<=Qy z.length (λv=>hmB (K.BB v))/\st<=65536*z.length) (λz _ _ _=>K.f-z.length) y st k (.slice kA (Jj k).length bj) sB
  ⟨ca,ap,c2,by rw[<-hr,cm];rfl,a2.top,d1,bp,bo⟩ ?_
 clear d1 c2 a2 a4 J d6 cn w7 w6 bp bo bl G w5 st ao hi ap;rintro z st o kv w5 ⟨hz,d3,eb,f4,G,d0,bp,bo⟩;have aa:Ext w5 w5.drew:=(Ext.refl w5).drew;have av:=G.ext aa;obtain⟨yv,mm,fm,H,e8⟩:=id av;obtain⟨YA,yc,rfl,f6,_⟩:=Jy H.row;have ae:=av.ext0 C;have dg:=eh.ext ae;refine drR (scq 8 [6]) ?_;refine Jz (H.blk.at (i:=6) rfl) ?_;refine Qz (cs:=[.slice DA K.f dc,.slice BA K.f cb,.slice KA K.f ck,.slice dn K.f cp,.slice TA (Jj K.tot).length tc]) (λj u hu=>dg.at hu) ?_;refine Jh (Jzw (ix.ext (Z.trans ae))) ?_;rintro u w6 ⟨rfl,J⟩;refine⟨J,?_⟩;have db:=av.ext J;have cz:=(d0.ext aa).ext J;clear dg ae;refine ρd ?_;refine ciR (λh=>?_) (λh=>?_)
 .have lz:z.length<K.f:=by have:=oT h;omega
  clear h;refine clR (Qcb C db lz (by unfold pS;simp[bq _ lz])) ?_;rintro u w7 ⟨⟨d,p,rfl,hT,hd⟩,c3,a2⟩;refine Jv Vp ?_;intro w8 fo dw d9 dj;refine Qp dj ?_;intro w9 c5 fd ab;have af:Ext w7 w9:=ab w7 dw d9;have ar:SeV K w9 z (pS K.pf (z.length+1) z.length) st (32*(z.length+1)) w5.heap.size:=(a2.ext af).same λc _=>Jhw;refine clR (Qcd C ar) ?_;rw[Qjx];rintro uo ad ⟨ba,ef,a8⟩;have a9:=b3.others_le lz (show 0<K.X.pend z.length z by omega);have eg:=hO ne z d3 lz (show 0<K.X.pend z.length z by omega);have c1:NatV ad kv o:=(((cz.gr c3).ext af).ext a8).1;have am:Nb o:=(C.pnb z.length z).le om;refine clR (Qrz c1 ba am.len a9.1 eg) ?_;rintro u dt ⟨⟨qv,rv,rfl,b9,cw⟩,a7⟩;refine ρ ?_;have hq:o / K.X.others z.length z<(K.t z.length z).sum:=by
   rw[Nat.div_lt_iff_lt_mul a9.1,<-K.T,<-b3.pend_split lz];exact eb
  have ax:=(c5.ext a8).ext a7;refine Jl ax ?_;refine ρ ?_;have a3:=(ar.ext a8).ext a7;refine cl (Xqx (hT.ext (a3.ext0 C)) b9 hq (an _ _) (cr _ _)) ?_;rintro u bh ⟨sv,n,rfl,hn,cv,ah⟩;refine Jv (cs:=V0.cells) Vb ?_;intro ew ek ch d8 dh;refine Qb (cs':=(Tr.findT (o / K.X.others z.length z) (K.t z.length z)).1.cells) dh ?_ (V.one _);intro dq dk en cg;have D:Ext bh dq:=cg bh ch d8;obtain⟨l1,l2,yy,hL,bs,ea,e9⟩:=Tr.findT_eq hq;have fa:=an z.length z;have e5:Nb (o / K.X.others z.length z):=am.le (Nat.div_le_self _ _);have e1:o / K.X.others z.length z-(Tr.findT (o / K.X.others z.length z) (K.t z.length z)).2<=o:=nL (Nat.sub_le _ _) (Nat.div_le_self _ _);refine clR (Qxf (b9.ext (ah.trans D)) (cv.ext D) e5.len) ?_;rintro u eu ⟨⟨ov,rfl,e4,fe⟩,ag⟩;rw[if_neg (show¬ o / K.X.others z.length z<(Tr.findT (o / K.X.others z.length z) (K.t z.length z)).2 by omega)];refine ρ ?_;have O:=(ah.trans D).trans ag
  refine cl (Jzq e4 (ba.ext (a7.trans O)) (am.le e1).len (Nb.len ((C.pnb z.length z).le a9.2))) ?_;rintro mv et ⟨e7,ff,a6⟩;have fc:(o / K.X.others z.length z-(Tr.findT (o / K.X.others z.length z) (K.t z.length z)).2)*K.X.others z.length z+o % K.X.others z.length z<=o:=by
   have h1:=Nat.div_add_mod o (K.X.others z.length z);have h2:=nO (K.X.others z.length z) (Nat.sub_le (o / K.X.others z.length z) (Tr.findT (o / K.X.others z.length z) (K.t z.length z)).2);grind
  refine clR (Ky e7 (cw.ext (O.trans a6)) (am.le om).len (am.le (Nat.mod_le _ _)).len) ?_;rintro c9 c8 ⟨bz,c4,b6⟩;have b1:=(O.trans a6).trans b6;have be:=a3.ext b1;obtain⟨ep,f2,fn,c6,br⟩:=id be;have e3:=d2 z.length z;have e2:=bb z.length z;refine ldR (c6.blk.at (i:=8) rfl) ?_;refine Xt (c6.blk.at (i:=8) rfl) (c6.blk.frozen 8) ?_;obtain⟨bd,aq⟩:=be.steps C n;obtain⟨ay,b7⟩:∃ ay,ay=c8.setCell ((⟨K.sb,0,none⟩:Addr).add 8) (.int .i64 ((st+n:Nat):Int)):=⟨_,rfl⟩;have bm:c8.setCell ((⟨K.sb,0,none⟩:Addr).add 8) (.int .i64 ((st:Int)+(n:Int)))=ay:=b7.symm;rw[<-b7]at bd aq;have ey:w5.heap.size<=bh.heap.size:=nL (nL aa.size (J.size)) (nL c3.size (((af.trans a8).trans a7).trans ah).size);have bi:¬ ek=K.sb:=λe=>by have:=br.1;omega
  have di:=Jb (dk.ext ((ag.trans a6).trans b6)) aq bi;refine Eq.mpr (congrArg _ bm) ?_;refine Ja (cs:=(Tr.findT (o / K.X.others z.length z) (K.t z.length z)).1.cells) (λj u' aj=>di.at aj) ?_;have df:K.X.E z.length (K.X.key z.length z)=l1++((Tr.findT (o / K.X.others z.length z) (K.t z.length z)).1,yy)::l2:=by rw[K.E];exact hL
  have ak:=b3.ext_at (n:=K.f-(z.length+1)) (y:=z) (by show z.length+(K.f-(z.length+1)+1)=K.f;omega) df a9.1 (by rw[bs];exact ea) (by rw[bs];exact e9);rw[bs]at ak;have ac:K.X.Gp (z++[(Tr.findT (o / K.X.others z.length z) (K.t z.length z)).1]):=d3.snoc (by rw[df];simp);have b2:(z++[(Tr.findT (o / K.X.others z.length z) (K.t z.length z)).1]).length=z.length+1:=by simp
  refine cl (Qcc C bd om lz _ ac (λc _ hs=>by
   unfold pS at hs;grind)) ?_
  rintro u er ⟨rfl,d5,de⟩;refine ρ ?_;have bw:NatX (λq=>q=K.mb∨q<w5.heap.size) ay c9 _:=(c4.x (N:=λq=>q=K.mb∨q<w5.heap.size∨q=K.sb) bz λq hq=>by
   have h1:=(D.trans (ag.trans a6)).size;have h2:=e8.1;rcases hq with h|h|h
   .rw[h];have:=G.ext0 C;obtain⟨_,_,_,H5,_⟩:=G;have:=H5.map.lt;omega
   .omega
   omega) |>.gr (aq.mono λq _ h=>.inr (.inr h)) |>.old λq hq=>.inl (by grind)
  refine Kk (z++[(Tr.findT (o / K.X.others z.length z) (K.t z.length z)).1]) (st+n) ((o / K.X.others z.length z-(Tr.findT (o / K.X.others z.length z) (K.t z.length z)).2)*K.X.others z.length z+o % K.X.others z.length z) c9 sO
   ⟨by rw[b2];omega,ac,by rw[b2];exact ak.2,?_,?_,(bw.gr (d5.mono λq _ h=>.inr h)).old λq hq=>.inl (.inl hq),?_,?_⟩ (by rw[b2];omega)
  .grind
  .rw[b2];exact(de.same λc hc=>Jhx (bq c hc)).more om
  repeat grind [Qy]
 have f5:z.length=K.f:=by have:=oF h;omega
 clear h;have dv:Ext w6 w6.drew:=(Ext.refl w6).drew;have au:=db.ext dv;obtain⟨eo,f0,fl,H3,em⟩:=id au;obtain⟨YB,yd,rfl,du,_⟩:=Jy H3.row;refine drR [(0,0),(0,1),(0,2),(0,3),(0,5),(0,6),(0,7),(0,8),(1,4),(0,9),(0,10),(0,11)] ?_;refine Jz (H3.blk.at (i:=6) rfl) ?_;refine Jz (H3.blk.at (i:=8) rfl) ?_;refine Jh (Jkm (r:=z) ⟨YB,yd,rfl,du,om,Rd.own H3.row⟩ (λq=>q<w.heap.size) (λq hq=>nM hq (Z.trans (au.ext0 C)).size)) ?_;rintro u w7 ⟨⟨A7,c7,rfl,fj,_,fk,fg⟩,a4⟩;refine⟨a4,?_⟩;refine ρd ?_;refine ρ ?_;refine Vl ⟨Z.trans ((au.ext a4).ext0 C),λh=>om,λ_=>?_⟩;have f9:r=z:=by
  have e:K.f-z.length=0:=om
  grind [AX.ext]
 grind [AcRF,Nat.le_of_not_lt]
end
open Go.RowKit Pl Go.Wk
variable {k pc:Nat}
structure IxA(w:World)(x:Value)(f:Nat)(ds:List Bool)(kf:Nat->Nat)(pf:Nat->Int)(BB:Nat->List BkT)(tot:Nat)(L:List Row): Prop where
 tb:∃ B0,TB B0 w
 ix:IxV w x f ds kf pf BB tot
 ip:IxP f ds kf pf BB tot L
 ho:tot≠0->∀ z,(Xf f kf pf BB).Gp z->z.length<f->0<(Xf f kf pf BB).pend z.length z->(Xf f kf pf BB).others z.length z<4294967296
 hb:∀ v b,b∈BB v->b.2.ht<=65536
section
variable {w:World} {x:Value} {f:Nat} {ds:List Bool} {kf:Nat->Nat} {pf:Nat->Int} {BB:Nat->List BkT} {tot:Nat} {L:List Row}
theorem IxA.ext(h:IxA w x f ds kf pf BB tot L){w':World}(hx:Ext w w'): IxA w' x f ds kf pf BB tot L:=by
 obtain⟨i,ht⟩:=h.tb;exact⟨⟨i,ht.ext hx⟩,h.ix.ext hx,h.ip,h.ho,h.hb⟩
def AtR(f:Nat)(BB:Nat->List BkT)(L:List Row)(k:Nat)(u:Value)(w:World): Prop:=match L[k]? with
 | some r=>∃ A c,∃ st:Nat,u=.tuple #[.slice A r.length c,.int .i64 (st:Int),.int .i64 0]/\RdR w A r/\r.length<=c/\r.length=f/\st<=Qy f λv=>hmB (BB v)
 | none=>u=.tuple #[.slice none 0 0,.int .i64 0,.int .i64 3]
theorem Qdt(L:List Row): wiL L []=L:=by simp[wiL]
theorem Qdr(h:IxA w x f ds kf pf BB tot L){y:Row}{PA:Option Addr}{kv:Value}(hy:RdR w PA y)(hk:NatV w kv k):
  Ret Tryz.prog 44 [x,.slice PA y.length pc,kv] w λu w'=>Ext w w'/\(f<y.length->u=.tuple #[.slice none 0 0,.int .i64 0,.int .i64 6])/\(y.length<=f->AcRF w f BB L y k u w'):=by
 obtain⟨i,ht⟩:=h.tb;exact Xbg ht h.ix h.ip h.ho hy hk
def AtRF(w0:World)(f:Nat)(BB:Nat->List BkT)(L:List Row)(k:Nat)(u:Value)(w:World): Prop:=match L[k]? with
 | some r=>∃ A c,∃ st:Nat,u=.tuple #[.slice A r.length c,.int .i64 (st:Int),.int .i64 0]/\RdR w A r/\r.length<=c/\r.length=f/\(st<=Qy f λv=>hmB (BB v))/\(r≠[]->∀ ad,A=some ad->w0.heap.size<=ad.block)
 | none=>u=.tuple #[.slice none 0 0,.int .i64 0,.int .i64 3]
theorem AtRF.weak{w0:World}{u:Value}(h:AtRF w0 f BB L k u w): AtR f BB L k u w:=by grind [AtRF,AtR]
theorem Xyk(h:IxA w x f ds kf pf BB tot L){kv:Value}(hk:NatV w kv k):
  Ret Tryz.prog 14 [x,kv] w λu w'=>Ext w w'/\AtRF w f BB L k u w':=by
 obtain⟨DA,dc,BA,cb,KA,ck,PA,cp,tv,J,G,rfl,Z,a1,hD,hB,hK,hP,C,O⟩:=id h.ix.ex;obtain⟨TA,tc,rfl,_⟩:=id C;refine enE Tryz.func14 Tryz.ntmps14 ?_;refine bxR ?_;intro w1 b i hb D;refine Jl D ?_;refine clR (Qdr (y:=[]) (PA:=none) (pc:=0) (h.ext i) Rd.nil (hk.ext i)) ?_;rintro u w2 ⟨o,_,h2⟩;have j:=h2 (Nat.zero_le _);unfold AcRF at j;rw[Qdt]at j;cases hr:L[k]? with
 | none=>
  rw[hr]at j;simp only at j;subst j;refine ρ ?_;refine Vl ⟨i.trans o,?_⟩;unfold AtRF;rw[hr]
 | some r=>
  rw[hr]at j;simp only at j;obtain⟨A,c,st,rfl,h5,h6,h7,h8,h9⟩:=j;refine ρ ?_;refine Vl ⟨i.trans o,?_⟩;unfold AtRF;rw[hr];exact⟨A,c,st,rfl,h5,h6,h7,h8,λh0 ad e=>nL i.size (h9 h0 ad e)⟩
theorem Xyj(h:IxA w x f ds kf pf BB tot L){kv:Value}(hk:NatV w kv k):
  Ret Tryz.prog 14 [x,kv] w λu w'=>Ext w w'/\AtR f BB L k u w':=(Xyk h hk).mono λu w' ⟨j,i⟩=>⟨j,i.weak⟩
end
end Go.Proofs.YtcdccafgdnblaaaGreatDoor
namespace Go.Proofs.YtcdccafgdnblaaaGreatDoor
open Pl Go.Wk
variable {l out:List Row}{i k m v:Nat}{vars:Nat->List Nat}{g g':Nat->Row}{y z:Row}
theorem Jlf{α:Type}: ∀ {l m:List α},l.Nodup->(∀ x∈l,x∈m)->l.length<=m.length
 | [],_,_,_=>Nat.zero_le _
 | x::l,m,hn,hs=>by
  obtain⟨a,b,rfl⟩:=List.append_of_mem (hs x mC);have hn':=List.nodup_cons.1 hn;have:=Jlf (l:=l) (m:=a++b) hn'.2 λy hy=>by grind
  grind
def Jjl(rs:Nat->List Row): Nat->List (List Row)
 | 0=>[[]]
 | m+1=>(Jjl rs m).flatMap λc=>(rs m).map λr=>c++[r]
theorem Qvc(rs:Nat->List Row): ∀ m,(Jjl rs m).length=Jf m λi=>(rs i).length
 | 0=>rfl
 | m+1=>by
  rw[Jjl,Jf,<-Qvc rs m];generalize Jjl rs m=l
  induction l with
  | nil=>simp
  | cons c l ih=>rw[List.flatMap_cons,List.length_append,ih,List.length_map,List.length_cons,Nat.succ_mul,Nat.add_comm]
theorem Qvb{rs:Nat->List Row}(g:Nat->Row): ∀ m,(∀ i,i<m->g i∈rs i)->(List.range m).map g∈Jjl rs m
 | 0,_=>by simp[Jjl]
 | m+1,h=>by
  rw[List.range_succ,List.map_append,Jjl,List.mem_flatMap];refine⟨_,Qvb g m λi hi=>h i om,?_⟩;grind
theorem Qww{rs:Nat->List Row}(F:(Nat->Row)->Row)(hF:∀ g g',(∀ i,i<m->g i=g' i)->F g=F g')(hn:l.Nodup)(h:∀ x∈l,∃ g:Nat->Row,(∀ i,i<m->g i∈rs i)/\x=F g):
  l.length<=Jf m λi=>(rs i).length:=by
 rw[<-Qvc];have:=Jlf (m:=(Jjl rs m).map λc=>F λi=>c.getD i []) hn λx j=>by
  obtain⟨g,o,rfl⟩:=h x j;refine List.mem_map.2 ⟨_,Qvb g m o,hF _ _ λi hi=>?_⟩;simp[List.getD,hi]
 grind
theorem Qxw{ds:List Bool}(h:Lt ds l): l.Nodup:=h.imp fun {a b} hab e=>by grind [Ur]
def Jqk(m:Nat)(vars:Nat->List Nat)(g:Nat->Row)(v:Nat): V:=match(List.range m).find? λi=>decide (v∈vars i) with
 | some i=>(g i).getD (lv (vars i) v) V0
 | none=>V0
theorem Qqp(h:∀ i,i<m->g i=g' i)(v:Nat): Jqk m vars g v=Jqk m vars g' v:=by grind [Jqk,List.range,List.mem_range.1,List.mem_of_find?_eq_some]
theorem Qqn(hasc:∀ i,i<m->Qu (vars i))(hc:∃ i,i<m/\v∈vars i)(h:∀ i,i<m->∀ j,j<(vars i).length->(vars i).getD j 0=v->(g i).getD j V0=z.getD v V0): Jqk m vars g v=z.getD v V0:=by
 unfold Jqk;cases hf:(List.range m).find? λi=>decide (v∈vars i) with
 | none=>
  grind
 | some i=>
  have hi:=List.mem_range.1 (List.mem_of_find?_eq_some hf);have o:v∈vars i:=by grind
  have:=Ys (hasc i hi) o;grind
section
variable (m:Nat) (vars:Nat->List Nat) (rs:Nat->List Row)
def fitB(vl:List Nat)(r:Row): Bool:=(List.range m).all λi=>(rs i).any λx=>decide (pmR (Xh (vars i) (Zb vl &&& Zb (vars i))) x=pmR (Xh vl (Zb vl &&& Zb (vars i))) r)
def Jyb(v:Nat): List Row:=(List.range m).flatMap λi=>(List.range (vars i).length).flatMap λk=>if(vars i).getD k 0=v then(rs i).map λr=>[r.getD k V0] else[]
def valR(v:Nat): List Row:=(Jyb m vars rs v).foldl (Jxw []) []
def Jwc(v:Nat): List V:=(valR m vars rs v).map λr=>r.getD 0 V0
def Jbm(vl:List Nat)(k:Nat)(out:List Row): List Row:=out.flatMap λr=>((Jwc m vars rs (vl.getD k 0)).map λx=>r++[x]).filter (fitB m vars rs (vl.take (k+1)))
def Ib(vl:List Nat): Nat->List Row
 | 0=>[[]]
 | k+1=>Jbm m vars rs vl k (Ib vl k)
def Jqt(n:Nat): List Row:=if n=0 then(if fitB m vars rs [] [] then[[]] else[]) else Ib m vars rs (List.range n) n
end
section
variable {n m:Nat} {vars:Nat->List Nat} {rs:Nat->List Row}
theorem Jdl{ds:List Bool}: ∀(ls:List Row) {done l:List Row},Zs ds done l->Zs ds (done++ls) (ls.foldl (Jxw ds) l)
 | [],done,l,h=>by simpa using h
 | r::ls,done,l,h=>by
  rw[List.foldl_cons];have:=Jdl ls (Qnk (r:=r) h);grind
theorem Jbg(v:Nat): Zs [] (Jyb m vars rs v) (valR m vars rs v):=by
 have:=Jdl (ds:=[]) (Jyb m vars rs v) (done:=[]) (l:=[]) ⟨List.Pairwise.nil,λx=>Iff.rfl⟩;rwa [List.nil_append]at this
theorem enumV_mem: y∈Jyb m vars rs v↔∃ i,i<m/\∃ k,k<(vars i).length/\(vars i).getD k 0=v/\∃ r∈rs i,y=[r.getD k V0]:=by
 unfold Jyb;grind
theorem valL_mem{x:V}: x∈Jwc m vars rs v↔∃ i,i<m/\∃ k,k<(vars i).length/\(vars i).getD k 0=v/\∃ r∈rs i,x=r.getD k V0:=by
 unfold Jwc;rw[List.mem_map];constructor
 .rintro⟨y,u,rfl⟩;obtain⟨i,hi,k,o,e,r,j,rfl⟩:=enumV_mem.1 (((Jbg v).2 y).1 u);grind
 rintro⟨i,hi,k,o,e,r,j,rfl⟩;exact⟨_,((Jbg v).2 _).2 (enumV_mem.2 ⟨i,hi,k,o,e,r,j,rfl⟩),rfl⟩
theorem Qfp(hy:y∈valR m vars rs v): ∃ x,y=[x]:=by
 obtain⟨i,hi,k,o,e,r,j,rfl⟩:=enumV_mem.1 (((Jbg v).2 y).1 hy);exact⟨_,rfl⟩
theorem Qfq(v:Nat): (Jwc m vars rs v).Nodup:=by
 unfold Jwc List.Nodup;rw[List.pairwise_map];refine List.Pairwise.imp_of_mem (fun {a b} ha hb hab e=>?_) (Jbg (m:=m) (vars:=vars) (rs:=rs) v).1;grind [Qfp,List.getD_cons_zero,Ur]
theorem Xqp{α β:Type}{f:α->List β}{l:List α}(h1:l.Nodup)(h2:∀ a∈l,(f a).Nodup)(h3:∀ a∈l,∀ b∈l,∀ x,x∈f a->x∈f b->a=b): (l.flatMap f).Nodup:=by
 induction l with
 | nil=>exact List.Pairwise.nil
 | cons a l ih=>
  grind
theorem Qhz{vl:List Nat}(h:out.Nodup): (Jbm m vars rs vl k out).Nodup:=by
 unfold Jbm;refine Xqp h (λr _=>?_) λa _ b _ x j i=>?_
 .grind [List.Pairwise.sublist,List.filter_sublist,List.map,List.Nodup,Qfq,List.append_cancel_left]
 obtain⟨u,D,rfl⟩:=List.mem_map.1 (List.mem_filter.1 j).1;obtain⟨o,C,e⟩:=List.mem_map.1 (List.mem_filter.1 i).1;have:=congrArg List.dropLast e;simpa using this.symm
theorem Qbk(vl:List Nat): ∀ k,(Ib m vars rs vl k).Nodup
 | 0=>by simp[Ib]
 | k+1=>Qhz (Qbk vl k)
def Ic(m:Nat)(vars:Nat->List Nat)(rs:Nat->List Row)(k:Nat)(z:Row): Prop:=∀ i,i<m->∃ x∈rs i,∀ j,j<(vars i).length->(vars i).getD j 0<k->x.getD j V0=z.getD ((vars i).getD j 0) V0
theorem Qjt{n:Nat}(h:i<n): (List.range n).getD i 0=i:=by simp[List.getD,h]
theorem Xzp(k s:Nat): Xh (List.range k) s=(List.range k).filter λu=>s.testBit u:=by grind [Xh,List.length_range,List.filter_congr,Qjt,List.mem_range.1]
theorem Xyq{l:List Nat}{p:Nat->Bool}(ha:Qu l)(hp:∀ u,p u=true↔u∈l): (List.range k).filter p=l.filter λu=>decide (u<k):=by
 have key:∀ {a b:List Nat},Qu a->Qu b->(∀ u,u∈a↔u∈b)->a=b:=by
  intro a;induction a with
  | nil=>
   intro b _ _ h;cases b with
   | nil=>rfl
   | cons y b=>have:=(h y).2 mC;cases this
  | cons x a ih=>
   intro b ha j h;cases b with
   | nil=>have:=(h x).1 mC;cases this
   | cons y b=>
    obtain⟨G,C⟩:=List.pairwise_cons.1 ha;obtain⟨D,o⟩:=List.pairwise_cons.1 j;have i:x=y:=by grind [List.mem_cons_self,List.mem_cons.1]
    subst i;rw[ih C o λu=>?_];grind
 refine key (List.Pairwise.sublist List.filter_sublist List.pairwise_lt_range) (List.Pairwise.sublist List.filter_sublist ha) λu=>?_;grind
theorem Jmt(hasc:∀ i,i<m->Qu (vars i))(hlen:∀ i,i<m->∀ r∈rs i,r.length=(vars i).length)(k:Nat)(z:Row): fitB m vars rs (List.range k) z=true↔Ic m vars rs k z:=by
 unfold fitB Ic;simp only[List.all_eq_true,List.mem_range,List.any_eq_true,decide_eq_true_eq];refine⟨λh i hi=>?_,λh i hi=>?_⟩;all_goals
  have hs:∀ u,(Zb (List.range k) &&& Zb (vars i)).testBit u=true↔u<k/\u∈vars i:=λu=>by
   rw[Nat.testBit_and,Bool.and_eq_true,edgeOf_bit,edgeOf_bit,List.mem_range]
  obtain⟨x,j,e⟩:=h i hi;refine⟨x,j,?_⟩;have G:Xh (List.range k) (Zb (List.range k) &&& Zb (vars i))=inS (vars i) (Zb (List.range k) &&& Zb (vars i)):=by
   rw[Xzp];have:(List.range k).filter (λu=>(Zb (List.range k) &&& Zb (vars i)).testBit u)=(List.range k).filter λu=>decide (u∈vars i):=List.filter_congr λu C=>by grind
   rw[this,Xyq (hasc i hi) λu=>by simp];unfold inS;refine List.filter_congr λu C=>?_;grind
  have o:=Jng (vars:=vars i) (s:=Zb (List.range k) &&& Zb (vars i)) (r:=x) (z:=z) (hlen i hi x j) (vars i).length (nR _);rw[List.take_length]at o;have D:Yb (vars i) (Zb (List.range k) &&& Zb (vars i)) (vars i).length=Xh (vars i) (Zb (List.range k) &&& Zb (vars i)):=rfl;rw[D]at o
 repeat grind
theorem Xqv{l:Nat}(hkl:k<=l): Ic m vars rs k (z.take l)↔Ic m vars rs k z:=by grind [Ic,V0]
theorem Jpb(hasc:∀ i,i<m->Qu (vars i))(hlen:∀ i,i<m->∀ r∈rs i,r.length=(vars i).length)(hn:∀ v,v<n->∃ i,i<m/\v∈vars i): ∀ k,k<=n->∀ z:Row,z∈Ib m vars rs (List.range n) k↔z.length=k/\(k=0∨Ic m vars rs k z)
 | 0,_,z=>by grind [Ib,List.mem_singleton,List.eq_nil_of_length_eq_zero]
 | k+1,hk,z=>by
  have ih:=Jpb hasc hlen hn k om;rw[Ib];unfold Jbm;rw[Qjt om,Qnd om];simp only[List.mem_flatMap,List.mem_filter,List.mem_map];constructor
  .grind [Jmt]
  rintro⟨hl,h⟩;have hf:Ic m vars rs (k+1) z:=h.resolve_left om;have hz:z=z.take k++[z.getD k V0]:=Jtk V0 hl;refine⟨z.take k,(ih _).2 ⟨by grind,?_⟩,⟨z.getD k V0,?_,hz.symm⟩,(Jmt hasc hlen (k+1) _).2 hf⟩
  .refine .inr ((Xqv (nR _)).2 λi hi=>?_);obtain⟨x,hx,h1⟩:=hf i hi;grind
  obtain⟨i,hi,hv⟩:=hn k om;obtain⟨x,hx,h1⟩:=hf i hi;have h2:=Ys (hasc i hi) hv;refine valL_mem.2 ⟨i,hi,_,h2.2.1,h2.2.2,x,hx,?_⟩;grind
theorem Xyg(hasc:∀ i,i<m->Qu (vars i))(hlen:∀ i,i<m->∀ r∈rs i,r.length=(vars i).length)(hn:∀ v,v<n->∃ i,i<m/\v∈vars i)(hk:k<=n): (Ib m vars rs (List.range n) k).length<=max 1 (Jf m λi=>(rs i).length):=by
 by_cases h0:k=0
 .subst h0;simp only[Ib,List.length_singleton];omega
 refine nL (Qww (F:=λg=>(List.range k).map (Jqk m vars g)) (λg g' o=>List.map_congr_left λv _=>Qqp o v) (Qbk _ k) λx D=>?_) (Nat.le_max_right _ _);obtain⟨Z,O⟩:=(Jpb hasc hlen hn k hk x).1 D;have C:Ic m vars rs k x:=O.resolve_left h0;obtain⟨g,o⟩:∃ g:Nat->Row,∀ i,i<m->g i∈rs i/\∀ j,j<(vars i).length->(vars i).getD j 0<k->(g i).getD j V0=x.getD ((vars i).getD j 0) V0:=by
  refine⟨λi=>if hi:i<m then Classical.choose (C i hi) else[],λi hi=>?_⟩;simp only[hi,dite_true];exact Classical.choose_spec (C i hi)
 refine⟨g,λi hi=>(o i hi).1,?_⟩;apply List.ext_getElem
 .simp[Z]
 intro v u G;have hp:=Qqn (g:=g) (z:=x) hasc (hn v om) λi hi j J e=>by
  have:=(o i hi).2 j J om;rw[e]at this;exact this
 rw[List.getElem_map,List.getElem_range,hp];simp[List.getD,u]
theorem Qzm(hasc:∀ i,i<m->Qu (vars i))(hlen:∀ i,i<m->∀ r∈rs i,r.length=(vars i).length)(hlt:∀ i,i<m->∀ v∈vars i,v<n)(hn:∀ v,v<n->∃ i,i<m/\v∈vars i)(z:Row): z∈Jqt m vars rs n↔Zt n m vars rs z:=by
 have key:z.length=n->(Ic m vars rs n z↔∀ i,i<m->pmR (vars i) z∈rs i):=λj=>by
  constructor
  .intro h i hi;obtain⟨x,o,C⟩:=h i hi;grind [pmR,List.ext_getElem,Xr,getD_mem',List.getD,V0]
  intro h i hi;grind [pmR,List.getD]
 unfold Jqt Zt;split
 .rename_i h0;subst h0;have u:=Jmt (vars:=vars) (rs:=rs) hasc hlen 0 [];grind
 rename_i h0;rw[Jpb hasc hlen hn n (nR _) z];grind
theorem Qts(hasc:∀ i,i<m->Qu (vars i))(hlen:∀ i,i<m->∀ r∈rs i,r.length=(vars i).length)(hn:∀ v,v<n->∃ i,i<m/\v∈vars i): (Jqt m vars rs n).length<=max 1 (Jf m λi=>(rs i).length):=by
 unfold Jqt;split
 .grind
 exact Xyg hasc hlen hn (nR _)
end
end Go.Proofs.YtcdccafgdnblaaaGreatDoor
namespace Go.Wk
open Go.RowKit
section
variable {P:Program} {n:Nat} {al:AL} {w:World} {Q:Exit->Act->World->Prop} {ops:Array Oper} {rest:List Oper} {d ty:Nat} {pos:String} {aft:Array Edge}
end
end Go.Wk
namespace Go.Proofs.YtcdccafgdnblaaaGreatDoor
open Go.RowKit Pl Go.Wk
attribute [local irreducible] WC WL QX WD WDB WP WN WG WH
theorem IntsV.n{w:World}{v:Value}{l:List Nat}(h:IntsV w v (nz l)): ∃ A c,v=.slice A l.length c/\l.length<=c/\l.length<=1100000/\Rd w 1 A l.length (Qq (nz l)):=by
 obtain⟨A,c,u,o,j,i⟩:=h;grind [Qg]
open Go.RowKit Pl Go.Wk
structure RInM(w:World)(VA RA:Option Addr)(m:Nat)(vars:Nat->List Nat)(rs:Nat->List Row): Prop where
 v:∃ cs,Rd w 1 VA m cs/\∀ i,i<m->∃ u,cs[i]?=some u/\IntsV w u (nz (vars i))
 r:∃ cs,Rd w 1 RA m cs/\∀ i,i<m->∃ u,cs[i]?=some u/\RowsV w u (rs i)
theorem RInM.ext{w w':World}{VA RA:Option Addr}{m:Nat}{vars:Nat->List Nat}{rs:Nat->List Row}(h:RInM w VA RA m vars rs)(hx:Ext w w'): RInM w' VA RA m vars rs:=by
 obtain⟨cs,G,D⟩:=h.v;obtain⟨ds,C,o⟩:=h.r;exact⟨⟨cs,G.ext hx,λi hi=>by obtain⟨u,e,j⟩:=D i hi;exact⟨u,e,j.ext hx⟩⟩,⟨ds,C.ext hx,λi hi=>by obtain⟨u,e,j⟩:=o i hi;exact⟨u,e,j.ext hx⟩⟩⟩
structure RefP(n m:Nat)(vars:Nat->List Nat)(rs:Nat->List Row): Prop where
 n32:n<=32
 m32:m<=32
 asc:∀ i,i<m->Qu (vars i)
 lt:∀ i,i<m->∀ v∈vars i,v<n
 len:∀ i,i<m->∀ r∈rs i,r.length=(vars i).length
 cov:∀ v,v<n->∃ i,i<m/\v∈vars i
 cnt:max 1 (Jf m λi=>(rs i).length)<=5000
 row:∀ i,i<m->(rs i).length<=10
def rinC(n f:Int)(pA:Option Addr)(pn pc:Nat)(VA:Option Addr)(vc:Nat)(RA:Option Addr)(rc m:Nat): List Value:=[.int .i64 n,.int .i64 f,.slice pA pn pc,.slice VA m vc,.slice RA m rc]
section
variable {n f:Int} {pA VA RA:Option Addr} {pn pc vc rc N m:Nat} {vars:Nat->List Nat} {rs:Nat->List Row} {w:World}
end
open Go.RowKit Pl Go.Wk
theorem Blk.rowV{w:World}{b t:Nat}{v:V}(h:Blk w b t v.cells): RowV w (.slice (some ⟨b,0,none⟩) 1 1) [v]:=⟨some ⟨b,0,none⟩,1,rfl,Nat.le_refl _,by simp,by
 have:=h.rd (n:=1) (sz:=3) rfl;unfold RdR;grind [rowC_one'']⟩
section
variable {n f:Int} {pA VA RA:Option Addr} {pn pc vc rc N m:Nat} {vars:Nat->List Nat} {rs:Nat->List Row} {w:World}
end
open Go.RowKit Pl Go.Wk
attribute [local irreducible] WM
def ansF(m:Nat)(vars:Nat->List Nat)(rs:Nat->List Row)(n f:Nat)(ds:List Bool): List Row:=((Jqt m vars rs n).map (List.take f)).foldl (Jxw ds) []
theorem Qbv(m:Nat)(vars:Nat->List Nat)(rs:Nat->List Row)(n f:Nat)(ds:List Bool): Zs ds ((Jqt m vars rs n).map (List.take f)) (ansF m vars rs n f ds):=by
 have:=Jdl (ds:=ds) ((Jqt m vars rs n).map (List.take f)) (done:=[]) (l:=[]) ⟨List.Pairwise.nil,λx=>Iff.rfl⟩;rwa [List.nil_append]at this
section
variable {n f:Int} {pA VA RA:Option Addr} {pn pc vc rc N m:Nat} {vars:Nat->List Nat} {rs:Nat->List Row} {w:World}
end
end Go.Proofs.YtcdccafgdnblaaaGreatDoor
