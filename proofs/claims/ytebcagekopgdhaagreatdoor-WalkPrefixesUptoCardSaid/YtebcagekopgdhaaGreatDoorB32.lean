/- Part 32. -/
import Derived.Test.YtebcagekopgdhaaGreatDoorB31
set_option linter.unusedVariables false
set_option maxRecDepth 100000
set_option maxHeartbeats 40000000
namespace Go.Proofs.YtebcagekopgdhaaGreatDoor
open Go.RowKit Pl Go.Wk
attribute [local irreducible] WC WL QX WD WDB WP WN WG
def chK(kf:Nat->Nat)(pf:Nat->Int)(v k:Nat): List (Nat×List Nat):=((List.range k).filter λc=>decide (pf c=(v:Int))).map λc=>(c,Qg (bk (kf v ||| 2^v) 32) (kf c))
theorem Jvv(kf:Nat->Nat)(pf:Nat->Int)(v k:Nat): chK kf pf v (k+1)=chK kf pf v k++if pf k=(v:Int) then [(k,Qg (bk (kf v ||| 2^v) 32) (kf k))] else []:=by
 unfold chK;rw [List.range_succ,List.filter_append,List.map_append];congr 1
 split
 .rename_i h;simp [h]
 .rename_i h;simp [h]
theorem Jxg(kf:Nat->Nat)(pf:Nat->Int)(v k:Nat): (chK kf pf v k).length<=k:=by
 unfold chK;rw [List.length_map];have:=List.length_filter_le (λc=>decide (pf c=(v:Int))) (List.range k);rw [List.length_range]at this;exact this
theorem Jfj(vars:List Nat)(s:Nat): (Qg vars s).length<=vars.length:=by
 have:=List.length_filter_le (λi=>s.testBit (vars.getD i 0)) (List.range vars.length);rw [List.length_range]at this;exact this
theorem EC: ElT Tryz.prog 206 247 2 32 (.agg #[.int .i64 0,.slice none 0 0]):=⟨Tryz.underlying206,info_parts kr,rfl,by decide⟩
theorem Qnr(z:Int)(v:Value)(A:Option Addr)(n c:Nat)(h:v=.slice A n c)(w:World): (Instr.build 247 #[(0,.int .i64 z),(1,v)]).run Tryz.prog w=.ok (.agg [.int .i64 z,v].toArray) w:=by subst h;kernel_rfl
theorem Qmv(z:Int)(v:Value)(A:Option Addr)(n c:Nat)(h:v=.slice A n c)(w:World): (Instr.buildSlice 206 1 #[(0,.agg [.int .i64 z,v].toArray)]).run Tryz.prog w=.ok (.slice (some ⟨w.heap.size,0,none⟩) 1 1) (w.alloc (.cells [.int .i64 z,v].toArray 247)):=by subst h;kernel_rfl
theorem Qjq{w:World}{b n v cb:Nat}{cs:List Value}{BA:Option Addr}{vR:Value}{kf:Nat->Nat}{pf:Nat->Int}{R:Nat->List Row}(hB:Blk w b 157 cs)(c5:cs[5]?=some (.slice BA n cb))(c6:cs[6]?=some vR)(hBags:Rd w 3 BA n (Qf n (Qb kf pf)))(hR:GV 3 AtG w vR ((List.range n).map λv=>Vx (kf v ||| 2^v) (R v)))(hn:n<=32)(hv:v<n)(hk:∀ v,v<n->kf v<4294967296):
  Ret Tryz.prog 130 [.pointer (some ⟨b,0,none⟩),.int .i64 (v:Int)] w λu w'=>OwnG 247 2 ChG w' w.heap.size u (chK kf pf v n)/\Ext w w':=by
 obtain ⟨RA,rc,ao,rfl,ad,ac,a8,ai⟩:=hR.parts;rw [List.length_map,List.length_range]at c6 ad ac a8;obtain ⟨re,an,⟨t,rfl,a9⟩,Z⟩:=ai v (by simpa using hv);simp only [List.getElem_map,List.getElem_range]at a9;obtain ⟨⟨PA,pc,aa,aq,ap,ae⟩,b1,ab⟩:=id a9;obtain ⟨t1,t2,t3⟩:=t;simp only [Vx]at aa;subst aa;have a5:(nz (bk (kf v ||| 2^v) 32)).length=(bk (kf v ||| 2^v) 32).length:=Qq _;refine Jz Tryz.func130 Tryz.ntmps130 rfl kr rfl ?_;refine ρ ?_;refine ld (hB.at (i:=5) c5) ?_;refine ρ ?_;refine Jt (fun (k:Nat) (vl:Value)=>[(0,.pointer (some ⟨b,0,none⟩)),(1,.int .i64 (v:Int)),(5,vl),(11,.int .i64 (n:Int)),(12,.int .i64 (k:Int))])
  (λk vl w'=>k<=n/\Ext w w'/\OwnG 247 2 ChG w' w.heap.size vl (chK kf pf v k)) (λk _=>n-k) 0 (.slice none 0 0) sB
  ⟨Nat.zero_le _,Ext.refl _,OwnG.nil _ _⟩ ?_
 rintro k vl w1 ⟨av,C,U⟩;refine ρ ?_;refine ci (λh=>?_) (λh=>?_)
 .have lk:k<n:=by have:=oT h;omega
  clear h;have am:=hB.ext C;have J:∀ {w'} (hx:Ext w w') j u,(Qb kf pf k)[j]?=some u->w'.cell? ((adr BA (k*3)).add j)=some u:=λhx j u hu=>by
   have hj:j<3:=by
    rcases Nat.lt_or_ge j 3 with h'|h'
    .exact h'
    .rw [List.getElem?_eq_none (by simp [Qb];omega)]at hu;cases hu
   rw [Xb];exact (hBags.ext hx).cell ((Ip (sz:=3) (λ_ _=>rfl) lk hj).trans hu)
  refine ρ ?_;refine ld (am.at (i:=5) c5) ?_;refine ρ ?_;refine ixq 3 k (hBags.ext C) lk ?_;refine ρ ?_;refine ld (J C 2 _ rfl) ?_;refine ρ ?_;refine ci (λh=>?_) (λh=>?_)
  .have hp:pf k=(v:Int):=Xf h;have a1:Ext w1 w1.drew:=(Ext.refl w1).drew;have o:=C.trans a1;have ay:=hB.ext o;obtain ⟨LA,lc,b2,au,a3⟩:=U.form;refine ρ ?_;refine drN (λk=>w.heap.size<=k) 10 [(0,0),(0,1),(0,2),(0,3),(0,4),(0,5),(0,6),(0,7),(0,8),(0,9),(0,10),(0,11),(0,12),(0,13),(0,14),(0,15),(0,16),(0,17),(1,18),(0,19),(1,20),(1,21),(0,22)] kr ?_;have aw:¬ w.heap.size<=b:=by have:=hB.lt;omega
   have G:∀ {p:Addr} {u:Value},w.cell? p=some u->∀ w',GrN (λk=>w.heap.size<=k) w1.drew w'->w'.cell? p=some u:=fun {p u} h w' hg=>
    Uv ((hg.old o λk hk=>hk)) h
   refine ρn ?_;refine nld (G (hB.at (i:=6) c6)) ?_;refine ρn ?_;refine Vt 3 v (a8.ext o) hv ?_;refine ρn ?_;refine nld (G (Z 0 _ rfl)) ?_;refine ρn ?_;refine nld (G (hB.at (i:=5) c5)) ?_;refine ρn ?_;refine Vt 3 k (hBags.ext o) lk ?_;refine ρn ?_;refine nld (G (J (Ext.refl w) 1 _ rfl)) ?_;refine ρn ?_;refine nop ?_;rw [a5];refine cl (Jtz (vars:=bk (kf v ||| 2^v) 32) (a5 ▸ ae.ext o) (hk k lk) (λu hu=>(bk_mem.1 hu).1) (Vu _ _)) ?_;rintro uc w2 ⟨a7,a4⟩;refine ρ ?_;refine Je (GrN.ext a4) ?_;obtain ⟨CA,cc,rfl,ah,ag⟩:=Jv a7;refine ρn ?_;refine Idq (Qnr _ _ CA _ cc rfl) ?_;refine ρn ?_;refine nop ?_;refine bsl (Qmv _ _ CA _ cc rfl) ?_;intro w3 b3 a2 ax ak;refine ρ ?_;refine Je (GrN.ext a2) ?_;refine ρn ?_;refine nop ?_;have O:Ext w1 w3:=(a1.trans a4).trans a2;have hΦ:Off (Qn w.heap.size vl) w3 (λu=>ChG u [.int .i64 (k:Int),.slice CA (Qg (bk (kf v ||| 2^v) 32) (kf k)).length cc] (k,Qg (bk (kf v ||| 2^v) 32) (kf k))):=by
    have h1:=Jjx (Jk a7 a2) (N:=Qn w.heap.size vl) λg eg hN=>by
     have:=(ag g eg).1;rcases hN with h'|h'
     .have:=o.size;omega
     .have:=(a3 g h').2;have:=a1.size;omega
    refine h1.imp λu h=>⟨CA,cc,rfl,ah,?_,Rd.own h⟩;exact nL (Jfj (bk (kf v ||| 2^v) 32) (kf k)) (Vu (kf v ||| 2^v) 32)
   refine apG EC (Φ:=ChG) (U.ext O) ak rfl Qcq hΦ (by have:=Jxg kf pf v k;omega) om (C.trans O).size ?_;intro v4 w4 aj a6 ar;refine ρ ?_;refine Je (GrN.by a6 λg eg=>(a3 g eg).1) ?_;refine ρn ?_;refine ρ ?_;refine Jg (k+1) v4 sO ⟨lk,Qv (C.trans O) a6 (λg eg=>(a3 g eg).1),?_⟩ om;rw [Jvv,if_pos hp];exact aj
  .have hp:pf k≠(v:Int):=Xg h;refine ρ ?_;refine Jg (k+1) vl sO ⟨lk,C,?_⟩ om;rw [Jvv,if_neg hp,List.append_nil];exact U
 have af:k=n:=by have:=oF h;omega
 rw [af]at U;refine ρ ?_;exact Jj ⟨U,C⟩
open Go.RowKit Pl Go.Wk
structure FixW(B0 n f:Nat)(kf:Nat->Nat)(pf:Nat->Int)(R:Nat->List Row)(vR:Value)(BA:Option Addr)(wF:World): Prop where
 tb:TB B0 wF
 bags:Rd wF 3 BA n (Qf n (Qb kf pf))
 rels:GV 3 AtG wF vR ((List.range n).map λv=>Vx (kf v ||| 2^v) (R v))
 n32:n<=32
 fn:f<=n
 kb:∀ v,v<n->kf v<4294967296
 pn:∀ c,c<n->pf c≠(c:Int)
 rows:∀ v,v<n->∀ x∈R v,x.length=(bk (kf v ||| 2^v) 32).length/\FitR x
 rlen:∀ v,v<n->(R v).length<=65536
def bCs(n f:Nat)(Dv Pv Av:Value)(BA:Option Addr)(cb:Nat)(vR:Value)(VA:Option Addr)(cv:Nat)(TA:Option Addr)(ct:Nat)(Kv:Value): List Value :=
 [.int .i64 (n:Int),.int .i64 (f:Int),Dv,Pv,Av,.slice BA n cb,vR,.slice VA n cv,.slice TA n ct,Kv]
def ARk(n f:Nat)(VA:Option Addr)(cv:Nat)(TA:Option Addr)(ct:Nat)(Kv:Value)(k:Nat): Prop:=(Value.slice VA n cv).ownBlock=some k∨(Value.slice TA n ct).ownBlock=some k∨Kv.ownBlock=some k
structure BldW(wF:World)(b n:Nat)(cs:List Value)(VA:Option Addr)(cv:Nat)(TA:Option Addr)(ct:Nat)(w:World)(va ta:List Value): Prop where
 ext:Ext wF w
 blk:Blk w b 157 cs
 va:w.ownsRow wF.heap.size 205 1 (.slice VA n cv) n va
 ta:w.ownsRow wF.heap.size 213 1 (.slice TA n ct) n ta
theorem BldW.ext'{wF:World}{b n:Nat}{cs:List Value}{VA:Option Addr}{cv:Nat}{TA:Option Addr}{ct:Nat}{w w':World}{va ta:List Value}(h:BldW wF b n cs VA cv TA ct w va ta)(hx:Ext w w'): BldW wF b n cs VA cv TA ct w' va ta :=
 ⟨h.ext.trans hx,h.blk.ext hx,Jk h.va hx,Jk h.ta hx⟩
def Zq(kf:Nat->Nat)(v:Nat): List Nat:=Qg (bk (kf v ||| 2^v) 32) (kf v)
open Classical in
noncomputable def Yc (rows:List Row) (cols:List Nat) (W:Row->Nat) (k:Row):Nat:=if ∃ x∈rows,0<W x/\pmR cols x=k then 1 else 0
theorem redT_pos{rows:List Row}{cols:List Nat}{W:Row->Nat}{k:Row}: 0<Yc rows cols W k↔∃ x∈rows,0<W x/\pmR cols x=k:=by
 unfold Yc;split
 .rename_i h;exact ⟨λ_=>h,λ_=>Nat.one_pos⟩
 .rename_i h;exact ⟨λo=>om,λo=>absurd o h⟩
theorem Jnk{rows:List Row}{cols:List Nat}{W:Row->Nat}{k:Row}: Yc rows cols W k<=1:=by
 unfold Yc;split<;>omega
theorem Jfz{w w':World}{cs:List Value}{a:Atm}(h:AtG w cs a)(hx:Ext w w'): AtG w' cs a:=by
 obtain ⟨t,e,o⟩:=h;exact ⟨t,e,o.ext hx⟩
theorem Ig{kf:Nat->Nat}{pf:Nat->Int}{v n:Nat}{p:Nat×List Nat}(h:p∈chK kf pf v n): p.1<n/\pf p.1=(v:Int)/\p.2=Qg (bk (kf v ||| 2^v) 32) (kf p.1):=by
 obtain ⟨c,o,rfl⟩:=List.mem_map.1 h;obtain ⟨C,u⟩:=List.mem_filter.1 o;exact ⟨List.mem_range.1 C,of_decide_eq_true u,rfl⟩
theorem Jdg{w:World}{v:Value}{n:Nat}(h:NatV w v n): ∃ A c,v=.slice A (Jq n).length c/\(0<(Jq n).length↔0<n):=by
 obtain ⟨A,c,e,_⟩:=h;refine ⟨A,c,e,λh=>Nat.pos_of_ne_zero (Jrn h),λh=>limbs_pos' om⟩
theorem Qyp{B0 n f b v cb cv ct:Nat}{kf:Nat->Nat}{pf:Nat->Int}{R:Nat->List Row}{vR Dv Pv Av Kv:Value}{BA VA TA:Option Addr}{wF w:World}{va ta:List Value}{T:Nat->Row->Nat}{AR:Nat->Prop}(hF:FixW B0 n f kf pf R vR BA wF)(hW:BldW wF b n (bCs n f Dv Pv Av BA cb vR VA cv TA ct Kv) VA cv TA ct w va ta)(hv:v<n)(hdv:∀ c,c<n->pf c=(v:Int)->f<=c->DnV AR (T c) w (va.getD c (.map none)))(hdt:∀ c,c<n->pf c=(v:Int)->c<f->DnT AR (T c) w (ta.getD c (.map none)))(hT1:∀ c,f<=c->∀ k,T c k<=1)(hTb:∀ c k,T c k<=4294967296^20)(hAR:∀ k,ARk n f VA cv TA ct Kv k->AR k)(hARl:∀ k,AR k->k<w.heap.size):
  Ret Tryz.prog 83 [.pointer (some ⟨b,0,none⟩),.int .i64 (v:Int)] w λu w'=>u=.tuple #[]/\∃ mv,BldW wF b n (bCs n f Dv Pv Av BA cb vR VA cv TA ct Kv) VA cv TA ct w' (va.set v mv) ta/\GrN (λk=>(Value.slice VA n cv).ownBlock=some k) w w' /\
   DnV AR (Yc (R v) (Zq kf v) λx=>wtL T x (chK kf pf v n)) w' mv:=by
 obtain ⟨bi,hB,a7,c1⟩:=hW;have bo:=hF.n32;refine Jz Tryz.func83 Tryz.ntmps83 rfl kr rfl ?_;refine ρ ?_;refine ld (hB.at (i:=7) rfl) ?_;refine ρ ?_;refine mkm 9 ?_;intro w1 U O cm hM;obtain ⟨s1,s2,s3,s4,s5⟩:=Zd (Jk a7 O) (q:=v) om (.map (some U));have da:va.length=n:=by have:=a7.1;omega
 refine ρ ?_;refine ix v (Rd.own (Jk a7 O)) om ?_;refine ρ ?_;refine sto (s1.trans (show va[v]?=some (va.getD v (.map none)) by simp [List.getD,List.getElem?_eq_getElem (show v<va.length by omega)])) s2 ?_;refine ρ ?_;obtain ⟨w2,bj⟩:∃ w2,w2=w1.setCell (adr VA v) (.map (some U)):=⟨_,rfl⟩;rw [<-bj]at s3 s5 ⊢;clear bj;have ai:∀ g,(Value.slice VA n cv).ownBlock=some g->wF.heap.size<=g/\g<w.heap.size:=(Jv a7).choose_spec.choose_spec.2.2;have bf:∀ g,(Value.slice TA n ct).ownBlock=some g->wF.heap.size<=g/\g<w.heap.size:=(Jv c1).choose_spec.choose_spec.2.2;have d3:=O.size;have d6:=hM.lt;have ah:Blk w2 b 157 _:=(hB.ext O).grown s5 ((hB.ext O).ne_own (Jk a7 O) rfl);have aw:w2.ownsRow wF.heap.size 213 1 (.slice TA n ct) n ta:=Xe (Jk c1 O) (Jk a7 O) s5 rfl;have c4:MapS Tryz.prog 9 w2 U 0 (λ_=>none):=hM.kept s5 (λe=>by have:=(ai U e.symm).2;omega);have bu:GrN AR w w2:=(GrN.ext O).trans (GrN.by s5 λk C=>hAR k (.inl C))
 have a2:Ext wF w2:=Qv (bi.trans O) s5 λk C=>(ai k C).1;have bq:wF.heap.size<=U:=nL bi.size cm;have au:=c4.lt;obtain ⟨RA,rc,d9,c6,ch,cg,bb,cw⟩:=hF.rels.parts;rw [List.length_map,List.length_range]at c6 ch cg bb;obtain ⟨re,d4,⟨t,d2,bd⟩,a4⟩:=cw v (by simpa using hv);subst d2;simp only [List.getElem_map,List.getElem_range]at bd;obtain ⟨⟨PA,pc,c8,dc,db,cj⟩,c7,c9⟩:=id bd;obtain ⟨t1,t2,t3⟩:=t;simp only [Vx]at c8 c7;subst c8;subst c7;have bn:(nz (bk (kf v ||| 2^v) 32)).length=(bk (kf v ||| 2^v) 32).length:=Qq _;have ap:∀ j u,(Qb kf pf v)[j]?=some u->wF.cell? ((adr BA (v*3)).add j)=some u:=λj u hu=>by
  have hj:j<3:=by
   rcases Nat.lt_or_ge j 3 with h'|h'
   .exact h'
   .rw [List.getElem?_eq_none (by simp [Qb];omega)]at hu;cases hu
  rw [Xb];exact hF.bags.cell ((Ip (sz:=3) (λ_ _=>rfl) hv hj).trans hu)
 subst c6;have aj:Ext w2 w2.drew:=(Ext.refl w2).drew;have G:=a2.trans aj;have bc:=ah.ext aj;refine dr [(0,0),(0,1),(0,3),(0,4),(0,5),(0,6),(0,7),(0,8),(0,9),(0,10),(0,11),(0,12),(0,13),(0,14),(0,15),(0,16),(0,17),(0,18),(1,2),(1,19),(0,20),(0,21)] kr ?_;refine ρd ?_;refine dld (bc.at (i:=6) rfl) ?_;refine ρd ?_;refine Gs 3 v (bb.ext G) hv ?_;refine ρd ?_;refine dld (Uv G (a4 0 _ rfl)) ?_;refine ρd ?_;refine dld (bc.at (i:=5) rfl) ?_;refine ρd ?_;refine Gs 3 v (hF.bags.ext G) hv ?_;refine ρd ?_;refine dld (Uv G (ap 1 _ rfl)) ?_;refine ρd ?_;refine dcl (Qjq (R:=R) bc rfl rfl (hF.bags.ext G) (hF.rels.ext G λcs a h=>Jfz h G) bo hv hF.kb) ?_;rintro vl w3 ⟨cy,am⟩;refine ⟨am,?_⟩;have bh:=G.trans am;refine ρd ?_;rw [bn];refine dcl (Jtz (vars:=bk (kf v ||| 2^v) 32) (bn ▸ cj.ext bh) (hF.kb v hv) (λu hu=>(bk_mem.1 hu).1) (Vu _ _)) ?_;rintro uc w4 ⟨bw,b4⟩
 refine ⟨b4,?_⟩;obtain ⟨CA,cc,rfl,dg,cq⟩:=Jv bw;refine ρd ?_;refine ρ ?_;have a3:=(aj.trans am).trans b4;have a9:=a2.trans a3;have d1:=ah.ext a3;have b6:∀ j u,([.int .i64 ((bk (kf v ||| 2^v) 32).length:Int),t3]:List Value)[j]?=some u->w4.cell? (((adr RA (v*3)).add 1).add j)=some u:=λj u hu=>by
  have:=a4 (1+j) u (by rw [Nat.add_comm];exact hu);rw [Xb]at this;rw [Xb,Xb,Nat.add_assoc];exact Uv a9 this
 refine ld (d1.at (i:=6) rfl) ?_;refine ρ ?_;refine ixq 3 v (bb.ext a9) hv ?_;refine ρ ?_;refine lds (cs:=[.int .i64 ((bk (kf v ||| 2^v) 32).length:Int),t3]) b6 ?_;refine ρ ?_;refine cl (Jcb (ar:=(bk (kf v ||| 2^v) 32).length) (ls:=R v) ((bd.ext a9).rel)) ?_;rintro ur w5 ⟨b3,an⟩;obtain ⟨ps,GA,gc,be,rfl,df,d5,bm,b5⟩:=an;have Z:(R v).length=ps.length:=by rw [be,List.length_map]
 have aa:=a3.trans b3;have bp:U<w4.heap.size:=nM au a3.size;have b7:b≠U:=λe=>by have h1:=hB.lt;omega
 refine ρ ?_;refine Xr (fun (i:Nat) (m:Nat) (fm:Lit->Option Value)=>[(0,.pointer (some ⟨b,0,none⟩)),(1,.int .i64 (v:Int)),(4,vl),(5,.slice CA (Zq kf v).length cc),(43,.slice GA ps.length gc),(44,.int .i64 (ps.length:Int)),(45,.int .i64 (i:Int))])
  (λi m fm w'=>i<=ps.length/\GrN (λk=>k=U) w5 w'/\MapS Tryz.prog 9 w' U m fm/\m<=i/\(∀ k:Row,fm (.string (idn k))=if 0<Yc ((R v).take i) (Zq kf v) (λx=>wtL T x (chK kf pf v n)) k then some (.bool true) else none)/\∀ kl,fm kl≠none->∃ k:Row,kl=.string (idn k)) (λi _ _=>ps.length-i) 0 0 (λ_=>none) sB
  ⟨Nat.zero_le _,GrN.refl _ _,c4.ext aa,Nat.le_refl _,λk=>?_,λkl h=>absurd rfl h⟩ ?_
 .rw [if_neg];intro h;obtain ⟨x,hx,_⟩:=redT_pos.1 h;simp at hx
 rintro i m fm w6 ⟨hi,af,c3,dd,ao,b8⟩;refine ρ ?_;refine ci (λh=>?_) (λh=>?_)
 .have li:i<ps.length:=by have:=oT h;omega
  clear h;obtain ⟨x,b1⟩:∃ x,x=(ps.getD i z0).2:=⟨_,rfl⟩;have ca:x∈R v:=by rw [be,b1];exact List.mem_map_of_mem (getD_mem' z0 ps li)
  have ay:(R v).getD i []=x:=by rw [be,b1];simp [List.getD,List.getElem?_eq_getElem li]
  obtain ⟨ax,a8⟩:=hF.rows v hv x ca;have o:GrN (λk=>k=U) w2 w6:=(GrN.ext aa).trans af;have a1:Ext wF w6:=o.old a2 λk C=>by rw [C];exact bq
  have d0:=Jd ah o b7;have c0:=Rd.own (Jr s3 o λg eg e=>by have:=(ai g eg).2;omega);have cr:=Rd.own (Jr aw o λg eg e=>by have:=(bf g eg).2;omega);have cx:GV 2 ChG w6 vl (chK kf pf v n):=((((cy.ext b4).ext b3).gr af λk C=>by rw [C];exact au)).gv (by have:=Jxg kf pf v n;omega);have av:GrN (λk=>k<w4.heap.size) w5 w6:=af.mono λk _ C=>by rw [C];exact bp
  have ac:RowV w6 (ps.getD i z0).1 x:=by rw [b1];exact b5 _ (getD_mem' z0 ps li) w6 av
  have aq:=bm w6 av;have a5:GrN AR w w6:=((bu.mono λk _ C=>(.inl C:AR k∨k=U)).trans (o.mono λk _ C=>.inr C)).mono λk C h=>h.elim id λe=>by omega
  have bl:∀ c,c≠v->(va.set v (.map (some U))).getD c (.map none)=va.getD c (.map none):=λc hc=>by simp [List.getD,List.getElem?_set_ne (Ne.symm hc)]
  have ck:∀ c,c<n->pf c=(v:Int)->c≠v:=λc hc hp e=>hF.pn c hc (by rw [hp,e]);refine ρ ?_;refine ix i aq li ?_;refine ρ ?_;refine ld (aq.cell (show (ps.map (·.1))[i]?=some (ps.getD i z0).1 by simp [List.getD,List.getElem?_eq_getElem li])) ?_
  refine ρ ?_;refine cl (Jhn (T:=T) (AR:=AR) (hF.tb.ext a1) d0 rfl rfl rfl c0 cr cx (by have:=Jxg kf pf v n;omega) (λp hp=>?_) ac a8 (λp hp ae=>?_) (λp hp ae=>?_) (λp hp ae k=>hT1 _ ae k) (λp hp k=>hTb _ k)) ?_
  .obtain ⟨h1,h2,h3⟩:=Ig hp;refine ⟨h1,λc hc=>?_⟩;rw [h3]at hc;rw [ax];exact Jxb hc
  .obtain ⟨h1,h2,h3⟩:=Ig hp;rw [bl _ (ck _ h1 h2)];exact (hdv _ h1 h2 ae).gr a5
  .obtain ⟨h1,h2,h3⟩:=Ig hp;exact (hdt _ h1 h2 ae).gr a5
  rintro vw w7 ⟨cd,_,a6⟩;obtain ⟨WA,wc,rfl,ab⟩:=Jdg cd;have c2:=c3.ext a6;have b9:=af.trans (GrN.ext a6);refine ρ ?_;refine ci (λh=>?_) (λh=>?_)
  .have ad:0<wtL T x (chK kf pf v n):=ab.1 (by have:=oT h;omega);have bs:GrN (λk=>k=U) w2 w7:=o.trans (GrN.ext a6);have bg:=a1.trans a6;have J:Ext w7 w7.drew:=(Ext.refl w7).drew;have cz:=(Jd ah bs b7).ext J;have bz:Rd w7.drew 1 VA n (va.set v (.map (some U))):=c0.ext (a6.trans J);have bv:Rd w7.drew 1 CA (Zq kf v).length (Js (nz (Zq kf v))):=Rd.own (Jk (Jr (Jk bw b3) b9 λg eg e=>by have:=(cq g eg).1;have:=am.size;have:=aj.size;omega) J);have ag:FitR (pmR (Zq kf v) x):=a8.pm (λc hc=>by rw [ax];exact Jxb hc) (nL (Jfj _ _) (Vu _ _));have ce:(va.set v (.map (some U)))[v]?=some (.map (some U)):=by rw [List.getElem?_set_self om]
   refine ρ ?_;refine drN (λ_=>False) 10 [(0,0),(0,1),(0,2),(0,3),(0,4),(0,5),(0,6),(0,7),(0,8),(1,9),(1,10),(2,11)] kr ?_;refine ρn ?_;refine nld (Jm (cz.at (i:=7) rfl) (λe=>e)) ?_;refine ρn ?_;refine nix v bz hv ?_;refine ρn ?_;refine nld (Jm (bz.cell ce) (λe=>e)) ?_;refine ρn ?_;refine nop ?_;refine cl (Jpf (cs:=Zq kf v) ((ac.ext a6).ext J) bv (λc hc=>by rw [ax];exact Jxb hc) (by have:=Jfj (bk (kf v ||| 2^v) 32) (kf v);have:=Vu (kf v ||| 2^v) 32;unfold Zq;omega)) ?_;rintro uk w8 ⟨co,ak⟩;obtain ⟨KA,kc,rfl,de,d7,cn⟩:=id co;refine ρ ?_;refine Je (GrN.ext ak) ?_;refine ρn ?_;refine nop ?_;refine cl (Jqs (r:=pmR (Zq kf v) x) ((hF.tb.ext (bg.trans J)).ext ak) cn (λu hu=>(ag.2 u hu).1) (by have:=ag.len;omega) (by have:=ag.1;omega)) ?_;rintro un w9 ⟨rfl,b2⟩;refine ρ ?_;refine Je (GrN.ext b2) ?_;refine ρn ?_;refine Xv ?_;refine mup KS (((c2.ext J).ext ak).ext b2) (by unfold maxLen;omega) (Ua ag) ?_
   intro d8 c5 bt;refine ρ ?_;refine Qa (i+1) (m+1) (upL fm (.string (idn (pmR (Zq kf v) x))) (some (.bool true))) sO ⟨li,((b9.trans (GrN.ext J)).trans ((GrN.ext ak).trans (GrN.ext b2))).trans (GrN.by bt λk C=>by injection C with C;exact C.symm),c5,om,λk=>?_,λkl br=>?_⟩ om
   .by_cases e:pmR (Zq kf v) x=k
    .rw [<-e,Gx (KS.key (Ua ag)),if_pos];refine redT_pos.2 ⟨x,?_,ad,rfl⟩;rw [Qy [] (by rw [Z];exact li),ay];exact List.mem_append_right _ (List.mem_singleton.2 rfl)
    .rw [Yy (λe'=>e (Jvg (by injection e'.symm))),ao k];have e2:(0<Yc ((R v).take (i+1)) (Zq kf v) (λx=>wtL T x (chK kf pf v n)) k)↔(0<Yc ((R v).take i) (Zq kf v) (λx=>wtL T x (chK kf pf v n)) k):=by
      rw [redT_pos,redT_pos,Qy [] (by rw [Z];exact li),ay];constructor
      .rintro ⟨y,hy,h1,h2⟩;rcases List.mem_append.1 hy with h3|h3
       .exact ⟨y,h3,h1,h2⟩
       .rw [List.mem_singleton.1 h3]at h2;exact absurd h2 e
      .rintro ⟨y,hy,h1,h2⟩;exact ⟨y,List.mem_append_left _ hy,h1,h2⟩
     simp only [e2]
   .by_cases e:kl=.string (idn (pmR (Zq kf v) x))
    .exact ⟨_,e⟩
    .rw [Yy e]at br;exact b8 kl br
  .have ad:¬ 0<wtL T x (chK kf pf v n):=λh'=>by have:=ab.2 h';have:=oF h;omega
   refine ρ ?_;refine Qa (i+1) m fm sO ⟨li,b9,c2,om,λk=>?_,b8⟩ om;rw [ao k];have e:(0<Yc ((R v).take (i+1)) (Zq kf v) (λx=>wtL T x (chK kf pf v n)) k)↔(0<Yc ((R v).take i) (Zq kf v) (λx=>wtL T x (chK kf pf v n)) k):=by
    rw [redT_pos,redT_pos,Qy [] (by rw [Z];exact li),ay];constructor
    .rintro ⟨y,hy,h1,h2⟩;rcases List.mem_append.1 hy with h3|h3
     .exact ⟨y,h3,h1,h2⟩
     .rw [List.mem_singleton.1 h3]at h1;exact absurd h1 ad
    .rintro ⟨y,hy,h1,h2⟩;exact ⟨y,List.mem_append_left _ hy,h1,h2⟩
   simp only [e]
 have cp:i=ps.length:=by have:=oF h;omega
 rw [cp,<-Z,List.take_length]at ao;have o:GrN (λk=>k=U) w2 w6:=(GrN.ext aa).trans af;have a1:Ext wF w6:=o.old a2 λk C=>by rw [C];exact bq
 have ba:GrN (λk=>(Value.slice VA n cv).ownBlock=some k) w w2:=(GrN.ext O).trans (GrN.by s5 λk C=>C);have a5:GrN (λk=>(Value.slice VA n cv).ownBlock=some k) w w6:=((ba.mono λk _ C=>(.inl C:(Value.slice VA n cv).ownBlock=some k∨k=U)).trans (o.mono λk _ C=>.inr C)).mono λk C h=>h.elim id λe=>by omega
 refine ρ ?_;refine Ue ⟨rfl,.map (some U),⟨a1,Jd ah o b7,Jr s3 o λg eg e=>(by have:=(ai g eg).2;omega),Jr aw o λg eg e=>(by have:=(bf g eg).2;omega)⟩,a5,U,m,fm,rfl,by have:=hF.rlen v hv;omega,⟨c3,?_⟩,ao,b8⟩;intro h';have:=hARl U h';omega
end Go.Proofs.YtebcagekopgdhaaGreatDoor
namespace Go.Wk
open Go.RowKit
theorem Qck{P:Program}{w:World}{base e sz m c q:Nat}{A:Option Addr}{xs cs:List Value}(ho:w.ownsRow base e sz (.slice A m c) m xs)(hj:q+cs.length<=m*sz)(h0:0<cs.length)(h1:∀ u∈cs,u.oneCell'=true):
  ∃ w',(storeCells (adr A q) cs).run P w=.ok () w'/\w'.ownsRow base e sz (.slice A m c) m (xs.take q++cs++xs.drop (q+cs.length))/\w.grownBy w' (Value.slice A m c).ownBlock:=by
 rcases ho.2 with ⟨hn,J⟩|⟨g,cap,cur,hv,hb,hg,hc,hcm,hcs,ht⟩
 .rw [J,Nat.zero_mul]at hj;omega
 injection hv with G _ e3
 subst G;subst e3;have O:m*sz<=c*sz:=nO _ hc;have U:adr (some ⟨g,0,none⟩) q=⟨g,q,none⟩:=by simp [adr,Vg]
 rw [U];have o:=run_storeCells_at (P:=P) g q e cs 0 cur w hg om h1;simp only [Nat.add_zero]at o;refine ⟨_,o,⟨?_,.inr ⟨g,c,_,rfl,hb,setRow_heap w g cur _ e (0,0) hg,hc,hcm,?_,?_⟩⟩,?_⟩
 .have:=ho.1;simp only [List.length_append,List.length_take,List.length_drop];omega
 .simp only [List.size_toArray,List.length_append,List.length_take,List.length_drop,Array.length_toList,hcs];omega
 .simp only;have C:(cur.toList.take q++cs).length=q+cs.length:=by rw [List.length_append,List.length_take,Array.length_toList,hcs];omega
  rw [List.take_append,C];have G:(cur.toList.take q++cs).take (m*sz)=cur.toList.take q++cs:=List.take_of_length_le om;rw [G,<-ht,List.take_take,Nat.min_eq_left om,List.drop_take]
 .exact Il w g (cur.toList.take q++cs++cur.toList.drop (q+cs.length)).toArray
theorem stoG{P:Program}{n:Nat}{al:AL}{w:World}{Q:Exit->Act->World->Prop}{ops:Array Oper}{rest:List Oper}{ty:Nat}{pos:String}{aft:Array Edge}{tt:TT}[h:Tab P tt]{x y:Operand}{t e base sz m c q:Nat}{A:Option Addr}{k:TK}{xs cs:List Value}(ho:w.ownsRow base e sz (.slice A m c) m xs)(hj:q+cs.length<=m*sz)(h0:0<cs.length)(kk:∀ w1,w1.ownsRow base e sz (.slice A m c) m (xs.take q++cs++xs.drop (q+cs.length))->w.grownBy w1 (Value.slice A m c).ownBlock->WL P n ops Q rest al w1)(h1:∀ u∈cs,u.oneCell'=true)(ht:tk tt t=some k:=by rfl)(hk:k.desc=.invalid:=by rfl)(hs:k.size=cs.length:=by rfl)(hx:ev al x=some (.pointer (some (adr A q))):=by rfl)(hy:ev al y=some (.agg cs.toArray):=by rfl):
  WL P n ops Q (⟨none,.store t x y,ty,pos,aft,none⟩::rest) al w:=by
 obtain ⟨w',C,G,J⟩:=Qck (P:=P) ho hj h0 h1;refine Kp (λa O=>?_) (kk w' G J);have o:=Ze w (Jjp h.ok ht hk w).2;simp [execOp,O.ev hx,O.ev hy,Instr.storeAt,Instr.sureAddr,storeVar,Value.cells,o,hs,C]
end Go.Wk
namespace Go.Proofs.YtebcagekopgdhaaGreatDoor
open Go.RowKit Pl Go.Wk
attribute [local irreducible] WC WL QX WD WDB WP WN WG
abbrev BkT:= Row×Tr
def BkE(d:Bool)(N:Nat->Prop)(w:World)(cs:List Value)(b:BkT): Prop:=∃ kv q,cs=[kv,.bool d,q]/\RowX w N kv b.1/\TrV N w b.2 q
theorem RowX.gr{N:Nat->Prop}{w w':World}{v:Value}{r:Row}(h:RowX w N v r)(hg:GrN N w w'): RowX w' N v r:=by
 obtain ⟨A,c,J,G,C,u,o⟩:=h;exact ⟨A,c,J,G,C,Zo u hg λh0 U e=>o (λO=>by rw [O]at h0;simp [Jl]at h0) U e,o⟩
theorem BkE.gr{d:Bool}{N:Nat->Prop}{w w':World}{cs:List Value}{b:BkT}(h:BkE d N w cs b)(hg:GrN N w w'): BkE d N w' cs b:=by
 obtain ⟨kv,q,C,u,o⟩:=h;exact ⟨kv,q,C,u.gr hg,o.gr hg⟩
theorem BkE.ext{d:Bool}{N:Nat->Prop}{w w':World}{cs:List Value}{b:BkT}(h:BkE d N w cs b)(hx:Ext w w'): BkE d N w' cs b:=h.gr (GrN.ext hx)
theorem BkE.old{d:Bool}{N N':Nat->Prop}{w:World}{cs:List Value}{b:BkT}(h:BkE d N w cs b)(hs:∀ k,N' k->N k∨w.heap.size<=k): BkE d N' w cs b:=by
 obtain ⟨kv,q,C,u,o⟩:=h;exact ⟨kv,q,C,u.mono λk G h=>(hs k h).elim id λJ=>om,o.old hs⟩
structure OwnB(d:Bool)(base:Nat)(w:World)(v:Value)(ps:List (List Value×BkT)): Prop where
 own:w.ownsRow base 140 3 v ps.length (Qj ps)
 el:∀ p∈ps,BkE d (Qn base v) w p.1 p.2
theorem BkE.len{d:Bool}{N:Nat->Prop}{w:World}{cs:List Value}{b:BkT}(h:BkE d N w cs b): cs.length=3:=by
 obtain ⟨kv,q,rfl,_⟩:=h;rfl
theorem OwnB.nil(d:Bool)(base:Nat)(w:World): OwnB d base w (.slice none 0 0) []:=⟨Xs _ _ _ _,λp o=>by cases o⟩
theorem OwnB.form{d:Bool}{base:Nat}{w:World}{v:Value}{ps:List (List Value×BkT)}(h:OwnB d base w v ps): ∃ A c,v=.slice A ps.length c/\ps.length<=c/\∀ g,v.ownBlock=some g->base<=g/\g<w.heap.size:=Jv h.own
theorem OwnB.gr{d:Bool}{base:Nat}{w w':World}{v:Value}{ps:List (List Value×BkT)}(h:OwnB d base w v ps){N:Nat->Prop}(hg:GrN N w w')(hN:∀ k,N k->k<base): OwnB d base w' v ps:=by
 obtain ⟨_,_,_,_,C⟩:=h.form;exact ⟨Jr h.own hg (λg G hn=>by have:=(C g G).1;have:=hN g hn;omega),λp o=>(h.el p o).gr (hg.mono λk _ u=>.inl (hN k u))⟩
theorem OwnB.ext{d:Bool}{base:Nat}{w w':World}{v:Value}{ps:List (List Value×BkT)}(h:OwnB d base w v ps)(hx:Ext w w'): OwnB d base w' v ps:=h.gr (N:=λ_=>False) (GrN.ext hx) λk e=>e.elim
theorem BkE.one{d:Bool}{N:Nat->Prop}{w:World}{cs:List Value}{b:BkT}(h:BkE d N w cs b): ∀ u∈cs,u.oneCell'=true:=by
 obtain ⟨kv,q,rfl,G,C⟩:=h;obtain ⟨p,rfl⟩:=C.ptr;intro u o;simp only [List.mem_cons,List.not_mem_nil,or_false]at o;rcases o with rfl|rfl|rfl
 .exact G.v.one
 .rfl
 .rfl
theorem EBk: ElT Tryz.prog 134 140 3 40 (.agg #[.slice none 0 0,.bool false,.pointer none]):=⟨Tryz.underlying134,info_parts kr,rfl,by decide⟩
open Go.RowKit Pl Go.Wk
theorem apB{n:Nat}{al:AL}{w:World}{Q:Exit->Act->World->Prop}{ops:Array Oper}{rest:List Oper}{d ty:Nat}{pos:String}{aft:Array Edge}{dir:Bool}{base b:Nat}{x y:Operand}{v:Value}{ps:List (List Value×BkT)}{cs:List Value}{bt:BkT}(ho:OwnB dir base w v ps)(hb:Blk w b 140 cs)(hΦ:BkE dir (Qn base v) w cs bt)(hm:ps.length<=1000000)(hbase:base<=w.heap.size)(kk:∀ v' w',OwnB dir base w' v' (ps++[(cs,bt)])->w.grownBy w' v.ownBlock->WL Tryz.prog n ops Q rest ((d,v')::al) w')(hx:ev al x=some v:=by rfl)(hy:ev al y=some (.slice (some ⟨b,0,none⟩) 1 1):=by rfl)(hd:Nat.blt d n=true:=by rfl):
  WL Tryz.prog n ops Q (⟨some d,.call { callee:=.builtin .append,args:=#[x,y],argTypes:=#[134,134] },ty,pos,aft,none⟩::rest) al w:=by
 refine apb (m':=1) (news:=cs) EBk ho.own (hb.rd (n:=1) (by rw [hΦ.len])) hΦ.one (by unfold maxLen;omega) om hbase ?_ hx hy hd;intro v' w' C G hn;refine kk v' w' ⟨?_,?_⟩ G
 .rw [List.length_append,List.length_singleton];have e:Qj (ps++[(cs,bt)])=Qj ps++cs:=by simp [Qj]
  rw [e];exact C
 .have key:∀ p:List Value×BkT,BkE dir (Qn base v) w p.1 p.2->BkE dir (Qn base v') w' p.1 p.2:=λp u=>by
   have O:BkE dir (λk=>Qn base v k∨Qn base v' k) w p.1 p.2:=u.old λk o=>by
    rcases o with h|h|h
    .exact .inl h
    .exact .inl (.inl h)
    .rcases hn k h with h'|h'
     .exact .inl (.inr h')
     .exact .inr h'
   exact (O.gr (GrN.by G λk o=>.inl (.inr o))).old λk o=>.inl (.inr o)
  intro p J;rcases List.mem_append.1 J with u|u
  .exact key p (ho.el p u)
  .rw [List.mem_singleton.1 u];exact key (cs,bt) hΦ
theorem Qhk{ps:List (List Value×BkT)}(hl:∀ p∈ps,p.1.length=3)(kv x1 x2 y1 y2:Value)(b b':BkT):
  (Qj (ps++[([kv,x1,x2],b)])).take (ps.length*3+1)++[y1,y2]++(Qj (ps++[([kv,x1,x2],b)])).drop (ps.length*3+1+2)=Qj (ps++[([kv,y1,y2],b')]):=by
 have e:∀ z:List Value×BkT,Qj (ps++[z])=Qj ps++z.1:=λz=>by simp [Qj]
 have C:=Jdw hl;rw [e,e,<-C];simp only;have u:(Qj ps++[kv,x1,x2]).take ((Qj ps).length+1)=Qj ps++[kv]:=by
  rw [List.take_append,List.take_of_length_le om,Nat.add_sub_cancel_left];rfl
 have o:(Qj ps++[kv,x1,x2]).drop ((Qj ps).length+1+2)=[]:=List.drop_of_length_le (by simp);rw [u,o];simp
theorem Qvd{d:Bool}{wt:Row->Nat}{m:Nat}{bs:List (Row×Tr)}{x:Row}(h0:wt x≠0)(h1:¬ (bs.getLast?.map (·.1))=some (x.take m)): Pl.stepG d wt m bs x=bs++[(x.take m,Tr.put d (x.getD m V0) (wt x) .nil)]:=by
 rw [Pl.stepG,if_neg h0,if_neg h1]
theorem Qvf{d:Bool}{wt:Row->Nat}{m:Nat}{i:List (Row×Tr)}{t:Tr}{x:Row}(h0:wt x≠0): Pl.stepG d wt m (i++[(x.take m,t)]) x=i++[(x.take m,Tr.put d (x.getD m V0) (wt x) t)]:=by
 rw [Pl.stepG,if_neg h0,if_pos (by simp)];simp
theorem Qvc{d:Bool}{wt:Row->Nat}{m:Nat}{bs:List (Row×Tr)}{x:Row}(h0:wt x=0): Pl.stepG d wt m bs x=bs:=by rw [Pl.stepG,if_pos h0]
def Zt(d:Bool)(wt:Row->Nat)(m:Nat)(rs:List Row): List BkT:=rs.foldl (Pl.stepG d wt m) []
theorem Jvh(d:Bool)(wt:Row->Nat)(m:Nat)(rs:List Row)(x:Row): Zt d wt m (rs++[x])=Pl.stepG d wt m (Zt d wt m rs) x:=by
 unfold Zt;rw [List.foldl_append];rfl
theorem Jzn{d:Bool}{wt:Row->Nat}{m:Nat}{rs:List Row}(hs:Lt [] rs)(hl:∀ y∈rs,y.length=m+1): GInv d wt m rs (Zt d wt m rs):=by
 suffices h:∀ k,k<=rs.length->GInv d wt m (rs.take k) (Zt d wt m (rs.take k)) by
  have:=h rs.length (Nat.le_refl _);rw [List.take_length]at this;exact this
 intro k;induction k with
 | zero=>intro _;exact GInv.nil d wt m
 | succ k ih=>
  intro u;have e:=Qy [] (show k<rs.length by omega);rw [e,Jvh];refine (ih om).step ?_ ?_
  .rw [<-e];exact hs.sublist (List.take_sublist _ _)
  .rw [<-e];exact λy o=>hl y (List.mem_of_mem_take o)
def Ye(bs:List BkT)(k:Row): Nat:=match bs.find? λb=>decide (b.1=k) with
 | some b=>b.2.sum
 | none=>0
theorem Jbb(bs:List BkT)(k:Row): Ye bs k=tot (entK bs k):=by
 unfold Ye entK;cases bs.find? λb=>decide (b.1=k) with
 | some b=>exact Tr.sum_eq _
 | none=>rfl
end Go.Proofs.YtebcagekopgdhaaGreatDoor
