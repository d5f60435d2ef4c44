/- Part 32 of the proof: Ix2, Ix3, Ix4, Ix5. -/
import Derived.Test.YtefpailelagbkaaGreatDoorJ31
set_option linter.unusedVariables false
set_option maxRecDepth 100000
set_option maxHeartbeats 40000000
namespace Go.Proofs.YtefpailelagbkaaGreatDoor
open Go.RowKit Pl Go.Wk
attribute [local irreducible] WC WL QX WD WDB WP WN WG
def chK(kf:Nat->Nat)(pf:Nat->Int)(v k:Nat): List (Nat×List Nat):=((List.range k).filter λc=>decide (pf c=(v:Int))).map λc=>(c,Jqv (bk (kf v ||| 2^v) 32) (kf c))
theorem chK_succ(kf:Nat->Nat)(pf:Nat->Int)(v k:Nat): chK kf pf v (k+1)=chK kf pf v k++if pf k=(v:Int) then [(k,Jqv (bk (kf v ||| 2^v) 32) (kf k))] else []:=by
 unfold chK;rw [List.range_succ,List.filter_append,List.map_append];congr 1
 split
 ·rename_i h;simp [h]
 ·rename_i h;simp [h]
theorem chK_len(kf:Nat->Nat)(pf:Nat->Int)(v k:Nat): (chK kf pf v k).length<=k:=by
 unfold chK;rw [List.length_map];have:=List.length_filter_le (λc=>decide (pf c=(v:Int))) (List.range k);rw [List.length_range]at this;exact this
theorem colsOf_len(vars:List Nat)(s:Nat): (Jqv vars s).length<=vars.length:=by
 have:=List.length_filter_le (λi=>s.testBit (vars.getD i 0)) (List.range vars.length);rw [List.length_range]at this;exact this
theorem EC: ElT Tryz.prog 201 239 2 32 (.agg #[.int .i64 0,.slice none 0 0]):=⟨Tryz.underlying201,info_parts (by kernel_rfl),rfl,by decide⟩
theorem bldChild(z:Int)(v:Value)(A:Option Addr)(n c:Nat)(h:v=.slice A n c)(w:World): (Instr.build 239 #[(0,.int .i64 z),(1,v)]).run Tryz.prog w=.ok (.agg [.int .i64 z,v].toArray) w:=by subst h;kernel_rfl
theorem bs1Child(z:Int)(v:Value)(A:Option Addr)(n c:Nat)(h:v=.slice A n c)(w:World): (Instr.buildSlice 201 1 #[(0,.agg [.int .i64 z,v].toArray)]).run Tryz.prog w=.ok (.slice (some ⟨w.heap.size,0,none⟩) 1 1) (w.alloc (.cells [.int .i64 z,v].toArray 239)):=by subst h;kernel_rfl
theorem children_any{w:World}{b n v cb:Nat}{cs:List Value}{BA:Option Addr}{vR:Value}{kf:Nat->Nat}{pf:Nat->Int}{R:Nat->List Row}(hB:Blk w b 158 cs)(c5:cs[5]?=some (.slice BA n cb))(c6:cs[6]?=some vR)(hBags:Rd w 3 BA n (Jxw n (Jym kf pf)))(hR:GV 3 AtG w vR ((List.range n).map λv=>Jwb (kf v ||| 2^v) (R v)))(hn:n<=32)(hv:v<n)(hk:∀ v,v<n->kf v<4294967296):
  Ret Tryz.prog 124 [.pointer (some ⟨b,0,none⟩),.int .i64 (v:Int)] w λu w'=>OwnG 239 2 ChG w' w.heap.size u (chK kf pf v n)/\Ext w w':=by
 obtain ⟨RA,rc,rcs,rfl,hrc,hrm,hRr,hRe⟩:=hR.parts;rw [List.length_map,List.length_range]at c6 hrc hrm hRr;obtain ⟨re,hrel,⟨t,rfl,hAt⟩,hrcell⟩:=hRe v (by simpa using hv);simp only [List.getElem_map,List.getElem_range]at hAt;obtain ⟨⟨PA,pc,ep1,hpc,hpm,hpr⟩,ep2,hprows⟩:=id hAt;obtain ⟨t1,t2,t3⟩:=t;simp only [Jwb]at ep1;subst ep1;have hnl:(nz (bk (kf v ||| 2^v) 32)).length=(bk (kf v ||| 2^v) 32).length:=Jqc _;refine Jjb Tryz.func124 Tryz.ntmps124 rfl (by kernel_rfl) rfl ?_;refine ρ ?_;refine ld (hB.at (i:=5) c5) ?_;refine ρ ?_;refine Jjv (fun (k:Nat) (vl:Value)=>[(0,.pointer (some ⟨b,0,none⟩)),(1,.int .i64 (v:Int)),(5,vl),(11,.int .i64 (n:Int)),(12,.int .i64 (k:Int))])
  (λk vl w'=>k<=n/\Ext w w'/\OwnG 239 2 ChG w' w.heap.size vl (chK kf pf v k)) (λk _=>n-k) 0 (.slice none 0 0) sB
  ⟨Nat.zero_le _,Ext.refl _,OwnG.nil _ _⟩ ?_
 rintro k vl w1 ⟨hkn,hx1,hG1⟩;refine ρ ?_;refine ci (λh=>?_) (λh=>?_)
 ·have lk:k<n:=by have:=of_decide_eq_true h;omega
  clear h;have hB1:=hB.ext hx1;have hcellB:∀ {w'} (hx:Ext w w') j u,(Jym kf pf k)[j]?=some u->w'.cell? ((adr BA (k*3)).add j)=some u:=λhx j u hu=>by
   have hj:j<3:=by
    rcases Nat.lt_or_ge j 3 with h'|h'
    ·exact h'
    ·rw [List.getElem?_eq_none (by simp [Jym];omega)]at hu;cases hu
   rw [Jqx];exact (hBags.ext hx).cell ((Jwv (sz:=3) (λ_ _=>rfl) lk hj).trans hu)
  refine ρ ?_;refine ld (hB1.at (i:=5) c5) ?_;refine ρ ?_;refine ixq 3 k (hBags.ext hx1) lk ?_;refine ρ ?_;refine ld (hcellB hx1 2 _ rfl) ?_;refine ρ ?_;refine ci (λh=>?_) (λh=>?_)
  ·have hp:pf k=(v:Int):=Jqj h;have hxd:Ext w1 w1.drew:=(Ext.refl w1).drew;have hx0d:=hx1.trans hxd;have hBd:=hB.ext hx0d;obtain ⟨LA,lc,elv,hlc,hlf⟩:=hG1.form;refine ρ ?_;refine drN (λk=>w.heap.size<=k) 10 [(0,0),(0,1),(0,2),(0,3),(0,4),(0,5),(0,6),(0,7),(0,8),(0,9),(0,10),(0,11),(0,12),(0,13),(0,14),(0,15),(0,16),(0,17),(1,18),(0,19),(1,20),(1,21),(0,22)] (by kernel_rfl) ?_;have hbn:¬ w.heap.size<=b:=by have:=hB.lt;omega
   have offc:∀ {p:Addr} {u:Value},w.cell? p=some u->∀ w',GrN (λk=>w.heap.size<=k) w1.drew w'->w'.cell? p=some u:=fun {p u} h w' hg=>
    Jwx ((hg.old hx0d λk hk=>hk)) h
   refine ρn ?_;refine nld (offc (hB.at (i:=6) c6)) ?_;refine ρn ?_;refine nixq 3 v (hRr.ext hx0d) hv ?_;refine ρn ?_;refine nld (offc (hrcell 0 _ rfl)) ?_;refine ρn ?_;refine nld (offc (hB.at (i:=5) c5)) ?_;refine ρn ?_;refine nixq 3 k (hBags.ext hx0d) lk ?_;refine ρn ?_;refine nld (offc (hcellB (Ext.refl w) 1 _ rfl)) ?_;refine ρn ?_;refine nop ?_;rw [hnl];refine cl (columns_any (vars:=bk (kf v ||| 2^v) 32) (hnl ▸ hpr.ext hx0d) (hk k lk) (λu hu=>(bk_mem.1 hu).1) (Jvl _ _)) ?_;rintro uc w2 ⟨hc2,hx2⟩;refine ρ ?_;refine Jql (GrN.ext hx2) ?_;obtain ⟨CA,cc,rfl,hcc,hcf⟩:=Jjd hc2;refine ρn ?_;refine nbld (bldChild _ _ CA _ cc rfl) ?_;refine ρn ?_;refine nop ?_;refine bsl (bs1Child _ _ CA _ cc rfl) ?_;intro w3 b3 hx3 hb3 hB3;refine ρ ?_;refine Jql (GrN.ext hx3) ?_;refine ρn ?_;refine nop ?_;have hx13:Ext w1 w3:=(hxd.trans hx2).trans hx3;have hΦ:Off (Qjp w.heap.size vl) w3 (λu=>ChG u [.int .i64 (k:Int),.slice CA (Jqv (bk (kf v ||| 2^v) 32) (kf k)).length cc] (k,Jqv (bk (kf v ||| 2^v) 32) (kf k))):=by
    have h1:=own_off (Jjc hc2 hx3) (N:=Qjp w.heap.size vl) λg eg hN=>by
     have:=(hcf g eg).1;rcases hN with h'|h'
     ·have:=hx0d.size;omega
     ·have:=(hlf g h').2;have:=hxd.size;omega
    refine h1.imp λu h=>⟨CA,cc,rfl,hcc,?_,Rd.own h⟩;exact Nat.le_trans (colsOf_len (bk (kf v ||| 2^v) 32) (kf k)) (Jvl (kf v ||| 2^v) 32)
   refine apG EC (Φ:=ChG) (hG1.ext hx13) hB3 rfl one_child hΦ (by have:=chK_len kf pf v k;omega) (by omega) (hx1.trans hx13).size ?_;intro v4 w4 hG4 hg4 hn4;refine ρ ?_;refine Jql (GrN.by hg4 λg eg=>(hlf g eg).1) ?_;refine ρn ?_;refine ρ ?_;refine Jjj (k+1) v4 sO ⟨lk,Jjk (hx1.trans hx13) hg4 (λg eg=>(hlf g eg).1),?_⟩ (by omega);rw [chK_succ,if_pos hp];exact hG4
  ·have hp:pf k≠(v:Int):=Jqk h;refine ρ ?_;refine Jjj (k+1) vl sO ⟨lk,hx1,?_⟩ (by omega);rw [chK_succ,if_neg hp,List.append_nil];exact hG1
 have hk':k=n:=by have:=of_decide_eq_false h;omega
 rw [hk']at hG1;refine ρ ?_;exact Jjq ⟨hG1,hx1⟩
open Go.RowKit Pl Go.Wk
structure FixW(B0 n f:Nat)(kf:Nat->Nat)(pf:Nat->Int)(R:Nat->List Row)(vR:Value)(BA:Option Addr)(wF:World): Prop where
 tb:TB B0 wF
 bags:Rd wF 3 BA n (Jxw n (Jym kf pf))
 rels:GV 3 AtG wF vR ((List.range n).map λv=>Jwb (kf v ||| 2^v) (R v))
 n32:n<=32
 fn:f<=n
 kb:∀ v,v<n->kf v<4294967296
 pn:∀ c,c<n->pf c≠(c:Int)
 rows:∀ v,v<n->∀ x∈R v,x.length=(bk (kf v ||| 2^v) 32).length/\FitR x
 rlen:∀ v,v<n->(R v).length<=65536
def bCs(n f:Nat)(Dv Pv Av:Value)(BA:Option Addr)(cb:Nat)(vR:Value)(VA:Option Addr)(cv:Nat)(TA:Option Addr)(ct:Nat)(Kv:Value): List Value :=
 [.int .i64 (n:Int),.int .i64 (f:Int),Dv,Pv,Av,.slice BA n cb,vR,.slice VA n cv,.slice TA n ct,Kv]
def ARk(n f:Nat)(VA:Option Addr)(cv:Nat)(TA:Option Addr)(ct:Nat)(Kv:Value)(k:Nat): Prop:=(Value.slice VA n cv).ownBlock=some k∨(Value.slice TA n ct).ownBlock=some k∨Kv.ownBlock=some k
structure BldW(wF:World)(b n:Nat)(cs:List Value)(VA:Option Addr)(cv:Nat)(TA:Option Addr)(ct:Nat)(w:World)(va ta:List Value): Prop where
 ext:Ext wF w
 blk:Blk w b 158 cs
 va:w.ownsRow wF.heap.size 200 1 (.slice VA n cv) n va
 ta:w.ownsRow wF.heap.size 208 1 (.slice TA n ct) n ta
theorem BldW.ext'{wF:World}{b n:Nat}{cs:List Value}{VA:Option Addr}{cv:Nat}{TA:Option Addr}{ct:Nat}{w w':World}{va ta:List Value}(h:BldW wF b n cs VA cv TA ct w va ta)(hx:Ext w w'): BldW wF b n cs VA cv TA ct w' va ta :=
 ⟨h.ext.trans hx,h.blk.ext hx,Jjc h.va hx,Jjc h.ta hx⟩
def keyC(kf:Nat->Nat)(v:Nat): List Nat:=Jqv (bk (kf v ||| 2^v) 32) (kf v)
open Classical in
noncomputable def redT (rows:List Row) (cols:List Nat) (W:Row->Nat) (k:Row):Nat:=if ∃ x∈rows,0<W x/\pmR cols x=k then 1 else 0
theorem redT_pos{rows:List Row}{cols:List Nat}{W:Row->Nat}{k:Row}: 0<redT rows cols W k↔∃ x∈rows,0<W x/\pmR cols x=k:=by
 unfold redT;split
 ·rename_i h;exact ⟨λ_=>h,λ_=>Nat.one_pos⟩
 ·rename_i h;exact ⟨λh'=>by omega,λh'=>absurd h' h⟩
theorem redT_le{rows:List Row}{cols:List Nat}{W:Row->Nat}{k:Row}: redT rows cols W k<=1:=by
 unfold redT;split<;>omega
theorem atG_ext{w w':World}{cs:List Value}{a:Atm}(h:AtG w cs a)(hx:Ext w w'): AtG w' cs a:=by
 obtain ⟨t,e,h1⟩:=h;exact ⟨t,e,h1.ext hx⟩
theorem mem_chK{kf:Nat->Nat}{pf:Nat->Int}{v n:Nat}{p:Nat×List Nat}(h:p∈chK kf pf v n): p.1<n/\pf p.1=(v:Int)/\p.2=Jqv (bk (kf v ||| 2^v) 32) (kf p.1):=by
 obtain ⟨c,hc,rfl⟩:=List.mem_map.1 h;obtain ⟨h1,h2⟩:=List.mem_filter.1 hc;exact ⟨List.mem_range.1 h1,of_decide_eq_true h2,rfl⟩
theorem len0_nat{w:World}{v:Value}{n:Nat}(h:NatV w v n): ∃ A c,v=.slice A (Jjf n).length c/\(0<(Jjf n).length↔0<n):=by
 obtain ⟨A,c,e,_⟩:=h;refine ⟨A,c,e,λh=>Nat.pos_of_ne_zero (limbs_ne h),λh=>limbs_pos' (by omega)⟩
theorem reduce_any{B0 n f b v cb cv ct:Nat}{kf:Nat->Nat}{pf:Nat->Int}{R:Nat->List Row}{vR Dv Pv Av Kv:Value}{BA VA TA:Option Addr}{wF w:World}{va ta:List Value}{T:Nat->Row->Nat}{AR:Nat->Prop}(hF:FixW B0 n f kf pf R vR BA wF)(hW:BldW wF b n (bCs n f Dv Pv Av BA cb vR VA cv TA ct Kv) VA cv TA ct w va ta)(hv:v<n)(hdv:∀ c,c<n->pf c=(v:Int)->f<=c->DnV AR (T c) w (va.getD c (.map none)))(hdt:∀ c,c<n->pf c=(v:Int)->c<f->DnT AR (T c) w (ta.getD c (.map none)))(hT1:∀ c,f<=c->∀ k,T c k<=1)(hTb:∀ c k,T c k<=4294967296^20)(hAR:∀ k,ARk n f VA cv TA ct Kv k->AR k)(hARl:∀ k,AR k->k<w.heap.size):
  Ret Tryz.prog 83 [.pointer (some ⟨b,0,none⟩),.int .i64 (v:Int)] w λu w'=>u=.tuple #[]/\∃ mv,BldW wF b n (bCs n f Dv Pv Av BA cb vR VA cv TA ct Kv) VA cv TA ct w' (va.set v mv) ta/\GrN (λk=>(Value.slice VA n cv).ownBlock=some k) w w' /\
   DnV AR (redT (R v) (keyC kf v) λx=>wtL T x (chK kf pf v n)) w' mv:=by
 obtain ⟨hxF,hB,hVa,hTa⟩:=hW;have hn32:=hF.n32;refine Jjb Tryz.func83 Tryz.ntmps83 rfl (by kernel_rfl) rfl ?_;refine ρ ?_;refine ld (hB.at (i:=7) rfl) ?_;refine ρ ?_;refine mkm 9 ?_;intro w1 mb hx1 hmb hM;obtain ⟨s1,s2,s3,s4,s5⟩:=Jqr (Jjc hVa hx1) (q:=v) (by omega) (.map (some mb));have hvl:va.length=n:=by have:=hVa.1;omega
 refine ρ ?_;refine ix v (Rd.own (Jjc hVa hx1)) (by omega) ?_;refine ρ ?_;refine sto (s1.trans (show va[v]?=some (va.getD v (.map none)) by simp [List.getD,List.getElem?_eq_getElem (show v<va.length by omega)])) s2 ?_;refine ρ ?_;obtain ⟨w2,hw2⟩:∃ w2,w2=w1.setCell (adr VA v) (.map (some mb)):=⟨_,rfl⟩;rw [<-hw2]at s3 s5 ⊢;clear hw2;have lVA:∀ g,(Value.slice VA n cv).ownBlock=some g->wF.heap.size<=g/\g<w.heap.size:=(Jjd hVa).choose_spec.choose_spec.2.2;have lTA:∀ g,(Value.slice TA n ct).ownBlock=some g->wF.heap.size<=g/\g<w.heap.size:=(Jjd hTa).choose_spec.choose_spec.2.2;have hx1':=hx1.size;have hmb1:=hM.lt;have hB2:Blk w2 b 158 _:=(hB.ext hx1).grown s5 ((hB.ext hx1).ne_own (Jjc hVa hx1) rfl);have hTa2:w2.ownsRow wF.heap.size 208 1 (.slice TA n ct) n ta:=Jjt (Jjc hTa hx1) (Jjc hVa hx1) s5 rfl;have hM2:MapS Tryz.prog 9 w2 mb 0 (λ_=>none):=hM.kept s5 (λe=>by have:=(lVA mb e.symm).2;omega)
 have hg02:GrN AR w w2:=(GrN.ext hx1).trans (GrN.by s5 λk hk=>hAR k (.inl hk));have hxF2:Ext wF w2:=Jjk (hxF.trans hx1) s5 λk hk=>(lVA k hk).1;have hmF:wF.heap.size<=mb:=Nat.le_trans hxF.size hmb;have hmb2:=hM2.lt;obtain ⟨RA,rc,rcs,evR,hrc,hrm,hRr,hRe⟩:=hF.rels.parts;rw [List.length_map,List.length_range]at evR hrc hrm hRr;obtain ⟨re,hrel,⟨t,ere,hAt⟩,hrcell⟩:=hRe v (by simpa using hv);subst ere;simp only [List.getElem_map,List.getElem_range]at hAt;obtain ⟨⟨PA,pc,ep1,hpc,hpm,hpr⟩,ep2,hprows⟩:=id hAt;obtain ⟨t1,t2,t3⟩:=t;simp only [Jwb]at ep1 ep2;subst ep1;subst ep2;have hnl:(nz (bk (kf v ||| 2^v) 32)).length=(bk (kf v ||| 2^v) 32).length:=Jqc _;have hcellB:∀ j u,(Jym kf pf v)[j]?=some u->wF.cell? ((adr BA (v*3)).add j)=some u:=λj u hu=>by
  have hj:j<3:=by
   rcases Nat.lt_or_ge j 3 with h'|h'
   ·exact h'
   ·rw [List.getElem?_eq_none (by simp [Jym];omega)]at hu;cases hu
  rw [Jqx];exact hF.bags.cell ((Jwv (sz:=3) (λ_ _=>rfl) hv hj).trans hu)
 subst evR;have hxd:Ext w2 w2.drew:=(Ext.refl w2).drew;have hxFd:=hxF2.trans hxd;have hBd:=hB2.ext hxd;refine dr [(0,0),(0,1),(0,3),(0,4),(0,5),(0,6),(0,7),(0,8),(0,9),(0,10),(0,11),(0,12),(0,13),(0,14),(0,15),(0,16),(0,17),(0,18),(1,2),(1,19),(0,20),(0,21)] (by kernel_rfl) ?_;refine ρd ?_;refine dld (hBd.at (i:=6) rfl) ?_;refine ρd ?_;refine dixq 3 v (hRr.ext hxFd) hv ?_;refine ρd ?_;refine dld (Jwx hxFd (hrcell 0 _ rfl)) ?_;refine ρd ?_;refine dld (hBd.at (i:=5) rfl) ?_;refine ρd ?_;refine dixq 3 v (hF.bags.ext hxFd) hv ?_;refine ρd ?_;refine dld (Jwx hxFd (hcellB 1 _ rfl)) ?_;refine ρd ?_;refine dcl (children_any (R:=R) hBd rfl rfl (hF.bags.ext hxFd) (hF.rels.ext hxFd λcs a h=>atG_ext h hxFd) hn32 hv hF.kb) ?_;rintro vl w3 ⟨hG3,hx3⟩;refine ⟨hx3,?_⟩;have hxF3:=hxFd.trans hx3;refine ρd ?_;rw [hnl];refine dcl (columns_any (vars:=bk (kf v ||| 2^v) 32) (hnl ▸ hpr.ext hxF3) (hF.kb v hv) (λu hu=>(bk_mem.1 hu).1) (Jvl _ _)) ?_
 rintro uc w4 ⟨hc4,hx4⟩;refine ⟨hx4,?_⟩;obtain ⟨CA,cc,rfl,hcc,hcf⟩:=Jjd hc4;refine ρd ?_;refine ρ ?_;have hx24:=(hxd.trans hx3).trans hx4;have hxF4:=hxF2.trans hx24;have hB4:=hB2.ext hx24;have hrel4:∀ j u,([.int .i64 ((bk (kf v ||| 2^v) 32).length:Int),t3]:List Value)[j]?=some u->w4.cell? (((adr RA (v*3)).add 1).add j)=some u:=λj u hu=>by
  have:=hrcell (1+j) u (by rw [Nat.add_comm];exact hu);rw [Jqx]at this;rw [Jqx,Jqx,Nat.add_assoc];exact Jwx hxF4 this
 refine ld (hB4.at (i:=6) rfl) ?_;refine ρ ?_;refine ixq 3 v (hRr.ext hxF4) hv ?_;refine ρ ?_;refine lds (cs:=[.int .i64 ((bk (kf v ||| 2^v) 32).length:Int),t3]) hrel4 ?_;refine ρ ?_;refine cl (relRows_any (ar:=(bk (kf v ||| 2^v) 32).length) (ls:=R v) ((hAt.ext hxF4).rel)) ?_;rintro ur w5 ⟨hx5,hrows5⟩;obtain ⟨ps,GA,gc,els,rfl,hgc,hpm2,hrd5,hrow5⟩:=hrows5;have hlenR:(R v).length=ps.length:=by rw [els,List.length_map]
 have hx25:=hx24.trans hx5;have hmb4:mb<w4.heap.size:=Nat.lt_of_lt_of_le hmb2 hx24.size;have hnb:b≠mb:=λe=>by have h1:=hB.lt;omega
 refine ρ ?_;refine Jzk (fun (i:Nat) (m:Nat) (fm:Lit->Option Value)=>[(0,.pointer (some ⟨b,0,none⟩)),(1,.int .i64 (v:Int)),(4,vl),(5,.slice CA (keyC kf v).length cc),(43,.slice GA ps.length gc),(44,.int .i64 (ps.length:Int)),(45,.int .i64 (i:Int))])
  (λi m fm w'=>i<=ps.length/\GrN (λk=>k=mb) w5 w'/\MapS Tryz.prog 9 w' mb m fm/\m<=i/\(∀ k:Row,fm (.string (idn k))=if 0<redT ((R v).take i) (keyC kf v) (λx=>wtL T x (chK kf pf v n)) k then some (.bool true) else none)/\∀ kl,fm kl≠none->∃ k:Row,kl=.string (idn k)) (λi _ _=>ps.length-i) 0 0 (λ_=>none) sB
  ⟨Nat.zero_le _,GrN.refl _ _,hM2.ext hx25,Nat.le_refl _,λk=>?_,λkl h=>absurd rfl h⟩ ?_
 ·rw [if_neg];intro h;obtain ⟨x,hx,_⟩:=redT_pos.1 h;simp at hx
 rintro i m fm w6 ⟨hi,hg6,hM6,hm6,hfm,hkm⟩;refine ρ ?_;refine ci (λh=>?_) (λh=>?_)
 ·have li:i<ps.length:=by have:=of_decide_eq_true h;omega
  clear h;obtain ⟨x,hxe⟩:∃ x,x=(ps.getD i z0).2:=⟨_,rfl⟩;have hxm:x∈R v:=by rw [els,hxe];exact List.mem_map_of_mem (getD_mem' z0 ps li)
  have hxi:(R v).getD i []=x:=by rw [els,hxe];simp [List.getD,List.getElem?_eq_getElem li]
  obtain ⟨hxl,hxfit⟩:=hF.rows v hv x hxm;have hg26:GrN (λk=>k=mb) w2 w6:=(GrN.ext hx25).trans hg6;have hxF6:Ext wF w6:=hg26.old hxF2 λk hk=>by rw [hk];exact hmF
  have hB6:=Jqb hB2 hg26 hnb;have hV6:=Rd.own (Jjr s3 hg26 λg eg e=>by have:=(lVA g eg).2;omega);have hT6:=Rd.own (Jjr hTa2 hg26 λg eg e=>by have:=(lTA g eg).2;omega);have hG6:GV 2 ChG w6 vl (chK kf pf v n):=((((hG3.ext hx4).ext hx5).gr hg6 λk hk=>by rw [hk];exact hmb2)).gv (by have:=chK_len kf pf v n;omega);have hg6':GrN (λk=>k<w4.heap.size) w5 w6:=hg6.mono λk _ hk=>by rw [hk];exact hmb4
  have hrow6:RowV w6 (ps.getD i z0).1 x:=by rw [hxe];exact hrow5 _ (getD_mem' z0 ps li) w6 hg6'
  have hrd6:=hrd5 w6 hg6';have hgw6:GrN AR w w6:=((hg02.mono λk _ hk=>(.inl hk:AR k∨k=mb)).trans (hg26.mono λk _ hk=>.inr hk)).mono λk hk h=>h.elim id λe=>by omega
  have hset:∀ c,c≠v->(va.set v (.map (some mb))).getD c (.map none)=va.getD c (.map none):=λc hc=>by simp [List.getD,List.getElem?_set_ne (Ne.symm hc)]
  have hne:∀ c,c<n->pf c=(v:Int)->c≠v:=λc hc hp e=>hF.pn c hc (by rw [hp,e]);refine ρ ?_;refine ix i hrd6 li ?_;refine ρ ?_;refine ld (hrd6.cell (show (ps.map (·.1))[i]?=some (ps.getD i z0).1 by simp [List.getD,List.getElem?_eq_getElem li])) ?_
  refine ρ ?_;refine cl (weight_any (T:=T) (AR:=AR) (hF.tb.ext hxF6) hB6 rfl rfl rfl hV6 hT6 hG6 (by have:=chK_len kf pf v n;omega) (λp hp=>?_) hrow6 hxfit (λp hp hpf=>?_) (λp hp hpf=>?_) (λp hp hpf k=>hT1 _ hpf k) (λp hp k=>hTb _ k)) ?_
  ·obtain ⟨h1,h2,h3⟩:=mem_chK hp;refine ⟨h1,λc hc=>?_⟩;rw [h3]at hc;rw [hxl];exact Jvx hc
  ·obtain ⟨h1,h2,h3⟩:=mem_chK hp;rw [hset _ (hne _ h1 h2)];exact (hdv _ h1 h2 hpf).gr hgw6
  ·obtain ⟨h1,h2,h3⟩:=mem_chK hp;exact (hdt _ h1 h2 hpf).gr hgw6
  rintro vw w7 ⟨hw7,_,hx7⟩;obtain ⟨WA,wc,rfl,hwpos⟩:=len0_nat hw7;have hM7:=hM6.ext hx7;have hg7:=hg6.trans (GrN.ext hx7);refine ρ ?_;refine ci (λh=>?_) (λh=>?_)
  ·have hpos:0<wtL T x (chK kf pf v n):=hwpos.1 (by have:=of_decide_eq_true h;omega);have hg27:GrN (λk=>k=mb) w2 w7:=hg26.trans (GrN.ext hx7);have hxF7:=hxF6.trans hx7;have hxd7:Ext w7 w7.drew:=(Ext.refl w7).drew;have hB7:=(Jqb hB2 hg27 hnb).ext hxd7;have hV7:Rd w7.drew 1 VA n (va.set v (.map (some mb))):=hV6.ext (hx7.trans hxd7);have hcol:Rd w7.drew 1 CA (keyC kf v).length (Jzx (nz (keyC kf v))):=Rd.own (Jjc (Jjr (Jjc hc4 hx5) hg7 λg eg e=>by have:=(hcf g eg).1;have:=hx3.size;have:=hxd.size;omega) hxd7);have hfk:FitR (pmR (keyC kf v) x):=hxfit.pm (λc hc=>by rw [hxl];exact Jvx hc) (Nat.le_trans (colsOf_len _ _) (Jvl _ _));have hvg:(va.set v (.map (some mb)))[v]?=some (.map (some mb)):=by rw [List.getElem?_set_self (by omega)]
   refine ρ ?_;refine drN (λ_=>False) 10 [(0,0),(0,1),(0,2),(0,3),(0,4),(0,5),(0,6),(0,7),(0,8),(1,9),(1,10),(2,11)] (by kernel_rfl) ?_;refine ρn ?_;refine nld (Jjg (hB7.at (i:=7) rfl) (λe=>e)) ?_;refine ρn ?_;refine nix v hV7 hv ?_;refine ρn ?_;refine nld (Jjg (hV7.cell hvg) (λe=>e)) ?_;refine ρn ?_;refine nop ?_;refine cl (pick_any (cs:=keyC kf v) ((hrow6.ext hx7).ext hxd7) hcol (λc hc=>by rw [hxl];exact Jvx hc) (by have:=colsOf_len (bk (kf v ||| 2^v) 32) (kf v);have:=Jvl (kf v ||| 2^v) 32;unfold keyC;omega)) ?_;rintro uk w8 ⟨hk8,hx8⟩;obtain ⟨KA,kc,rfl,hkc,hkm8,hkR⟩:=id hk8;refine ρ ?_;refine Jql (GrN.ext hx8) ?_;refine ρn ?_;refine nop ?_;refine cl (Jzp (r:=pmR (keyC kf v) x) ((hF.tb.ext (hxF7.trans hxd7)).ext hx8) hkR (λu hu=>(hfk.2 u hu).1) (by have:=hfk.len;omega) (by have:=hfk.1;omega)) ?_;rintro un w9 ⟨rfl,hx9⟩;refine ρ ?_;refine Jql (GrN.ext hx9) ?_
   refine ρn ?_;refine Jkm ?_;refine mup KS (((hM7.ext hxd7).ext hx8).ext hx9) (by unfold maxLen;omega) (Qqp hfk) ?_;intro w10 hM10 hg10;refine ρ ?_;refine Jqf (i+1) (m+1) (upL fm (.string (idn (pmR (keyC kf v) x))) (some (.bool true))) sO ⟨li,((hg7.trans (GrN.ext hxd7)).trans ((GrN.ext hx8).trans (GrN.ext hx9))).trans (GrN.by hg10 λk hk=>by injection hk with hk;exact hk.symm),hM10,by omega,λk=>?_,λkl hkl=>?_⟩ (by omega)
   ·by_cases e:pmR (keyC kf v) x=k
    ·rw [<-e,upL_at (KS.key (Qqp hfk)),if_pos];refine redT_pos.2 ⟨x,?_,hpos,rfl⟩;rw [Jjm [] (by rw [hlenR];exact li),hxi];exact List.mem_append_right _ (List.mem_singleton.2 rfl)
    ·rw [Jyq (λe'=>e (idn_inj (by injection e'.symm))),hfm k];have e2:(0<redT ((R v).take (i+1)) (keyC kf v) (λx=>wtL T x (chK kf pf v n)) k)↔(0<redT ((R v).take i) (keyC kf v) (λx=>wtL T x (chK kf pf v n)) k):=by
      rw [redT_pos,redT_pos,Jjm [] (by rw [hlenR];exact li),hxi];constructor
      ·rintro ⟨y,hy,h1,h2⟩;rcases List.mem_append.1 hy with h3|h3
       ·exact ⟨y,h3,h1,h2⟩
       ·rw [List.mem_singleton.1 h3]at h2;exact absurd h2 e
      ·rintro ⟨y,hy,h1,h2⟩;exact ⟨y,List.mem_append_left _ hy,h1,h2⟩
     simp only [e2]
   ·by_cases e:kl=.string (idn (pmR (keyC kf v) x))
    ·exact ⟨_,e⟩
    ·rw [Jyq e]at hkl;exact hkm kl hkl
  ·have hpos:¬ 0<wtL T x (chK kf pf v n):=λh'=>by have:=hwpos.2 h';have:=of_decide_eq_false h;omega
   refine ρ ?_;refine Jqf (i+1) m fm sO ⟨li,hg7,hM7,by omega,λk=>?_,hkm⟩ (by omega);rw [hfm k];have e:(0<redT ((R v).take (i+1)) (keyC kf v) (λx=>wtL T x (chK kf pf v n)) k)↔(0<redT ((R v).take i) (keyC kf v) (λx=>wtL T x (chK kf pf v n)) k):=by
    rw [redT_pos,redT_pos,Jjm [] (by rw [hlenR];exact li),hxi];constructor
    ·rintro ⟨y,hy,h1,h2⟩;rcases List.mem_append.1 hy with h3|h3
     ·exact ⟨y,h3,h1,h2⟩
     ·rw [List.mem_singleton.1 h3]at h1;exact absurd h1 hpos
    ·rintro ⟨y,hy,h1,h2⟩;exact ⟨y,List.mem_append_left _ hy,h1,h2⟩
   simp only [e]
 have hi':i=ps.length:=by have:=of_decide_eq_false h;omega
 rw [hi',<-hlenR,List.take_length]at hfm;have hg26:GrN (λk=>k=mb) w2 w6:=(GrN.ext hx25).trans hg6;have hxF6:Ext wF w6:=hg26.old hxF2 λk hk=>by rw [hk];exact hmF
 have hg02V:GrN (λk=>(Value.slice VA n cv).ownBlock=some k) w w2:=(GrN.ext hx1).trans (GrN.by s5 λk hk=>hk);have hgw6:GrN (λk=>(Value.slice VA n cv).ownBlock=some k) w w6:=((hg02V.mono λk _ hk=>(.inl hk:(Value.slice VA n cv).ownBlock=some k∨k=mb)).trans (hg26.mono λk _ hk=>.inr hk)).mono λk hk h=>h.elim id λe=>by omega
 refine ρ ?_;refine finE ⟨rfl,.map (some mb),⟨hxF6,Jqb hB2 hg26 hnb,Jjr s3 hg26 λg eg e=>(by have:=(lVA g eg).2;omega),Jjr hTa2 hg26 λg eg e=>(by have:=(lTA g eg).2;omega)⟩,hgw6,mb,m,fm,rfl,by have:=hF.rlen v hv;omega,⟨hM6,?_⟩,hfm,hkm⟩;intro h';have:=hARl mb h';omega
end Go.Proofs.YtefpailelagbkaaGreatDoor
namespace Go.Wk
open Go.RowKit
theorem own_storeG{P:Program}{w:World}{base e sz m c q:Nat}{A:Option Addr}{xs cs:List Value}(ho:w.ownsRow base e sz (.slice A m c) m xs)(hj:q+cs.length<=m*sz)(h0:0<cs.length)(h1:∀ u∈cs,u.oneCell'=true):
  ∃ w',(storeCells (adr A q) cs).run P w=.ok () w'/\w'.ownsRow base e sz (.slice A m c) m (xs.take q++cs++xs.drop (q+cs.length))/\w.grownBy w' (Value.slice A m c).ownBlock:=by
 rcases ho.2 with ⟨hn,hx⟩|⟨g,cap,cur,hv,hb,hg,hc,hcm,hcs,ht⟩
 ·rw [hx,Nat.zero_mul]at hj;omega
 injection hv with e1 _ e3
 subst e1;subst e3;have hmc:m*sz<=c*sz:=Nat.mul_le_mul_right _ hc;have ea:adr (some ⟨g,0,none⟩) q=⟨g,q,none⟩:=by simp [adr,Jzn]
 rw [ea];have hst:=run_storeCells_at (P:=P) g q e cs 0 cur w hg (by omega) h1;simp only [Nat.add_zero]at hst;refine ⟨_,hst,⟨?_,.inr ⟨g,c,_,rfl,hb,setRow_heap w g cur _ e (0,0) hg,hc,hcm,?_,?_⟩⟩,?_⟩
 ·have:=ho.1;simp only [List.length_append,List.length_take,List.length_drop];omega
 ·simp only [List.size_toArray,List.length_append,List.length_take,List.length_drop,Array.length_toList,hcs];omega
 ·simp only;have hlen:(cur.toList.take q++cs).length=q+cs.length:=by rw [List.length_append,List.length_take,Array.length_toList,hcs];omega
  rw [List.take_append,hlen];have e1:(cur.toList.take q++cs).take (m*sz)=cur.toList.take q++cs:=List.take_of_length_le (by omega);rw [e1,<-ht,List.take_take,Nat.min_eq_left (by omega),List.drop_take]
 ·exact Jzd w g (cur.toList.take q++cs++cur.toList.drop (q+cs.length)).toArray
theorem stoG{P:Program}{n:Nat}{al:AL}{w:World}{Q:Exit->Act->World->Prop}{ops:Array Oper}{rest:List Oper}{ty:Nat}{pos:String}{aft:Array Edge}{tt:TT}[h:Tab P tt]{x y:Operand}{t e base sz m c q:Nat}{A:Option Addr}{k:TK}{xs cs:List Value}(ho:w.ownsRow base e sz (.slice A m c) m xs)(hj:q+cs.length<=m*sz)(h0:0<cs.length)(kk:∀ w1,w1.ownsRow base e sz (.slice A m c) m (xs.take q++cs++xs.drop (q+cs.length))->w.grownBy w1 (Value.slice A m c).ownBlock->WL P n ops Q rest al w1)(h1:∀ u∈cs,u.oneCell'=true)(ht:tk tt t=some k:=by rfl)(hk:k.desc=.invalid:=by rfl)(hs:k.size=cs.length:=by rfl)(hx:ev al x=some (.pointer (some (adr A q))):=by rfl)(hy:ev al y=some (.agg cs.toArray):=by rfl):
  WL P n ops Q (⟨none,.store t x y,ty,pos,aft,none⟩::rest) al w:=by
 obtain ⟨w',hst,ho',hg'⟩:=own_storeG (P:=P) ho hj h0 h1;refine wopn (λa ha=>?_) (kk w' ho' hg');have hsz:=Jqs w (Jvp h.ok ht hk w).2;simp [execOp,ha.ev hx,ha.ev hy,Instr.storeAt,Instr.sureAddr,storeVar,Value.cells,hsz,hs,hst]
end Go.Wk
namespace Go.Proofs.YtefpailelagbkaaGreatDoor
open Go.RowKit Pl Go.Wk
attribute [local irreducible] WC WL QX WD WDB WP WN WG
abbrev BkT:= Row×Tr
def BkE(d:Bool)(N:Nat->Prop)(w:World)(cs:List Value)(b:BkT): Prop:=∃ kv q,cs=[kv,.bool d,q]/\RowX w N kv b.1/\TrV N w b.2 q
theorem RowX.gr{N:Nat->Prop}{w w':World}{v:Value}{r:Row}(h:RowX w N v r)(hg:GrN N w w'): RowX w' N v r:=by
 obtain ⟨A,c,h1,h2,h3,h4,h5⟩:=h;exact ⟨A,c,h1,h2,h3,rdGr h4 hg λh0 ad e=>h5 (λe'=>by rw [e']at h0;simp [Jxt]at h0) ad e,h5⟩
theorem BkE.gr{d:Bool}{N:Nat->Prop}{w w':World}{cs:List Value}{b:BkT}(h:BkE d N w cs b)(hg:GrN N w w'): BkE d N w' cs b:=by
 obtain ⟨kv,q,h1,h2,h3⟩:=h;exact ⟨kv,q,h1,h2.gr hg,h3.gr hg⟩
theorem BkE.ext{d:Bool}{N:Nat->Prop}{w w':World}{cs:List Value}{b:BkT}(h:BkE d N w cs b)(hx:Ext w w'): BkE d N w' cs b:=h.gr (GrN.ext hx)
theorem BkE.old{d:Bool}{N N':Nat->Prop}{w:World}{cs:List Value}{b:BkT}(h:BkE d N w cs b)(hs:∀ k,N' k->N k∨w.heap.size<=k): BkE d N' w cs b:=by
 obtain ⟨kv,q,h1,h2,h3⟩:=h;exact ⟨kv,q,h1,h2.mono λk hk h=>(hs k h).elim id λh'=>by omega,h3.old hs⟩
structure OwnB(d:Bool)(base:Nat)(w:World)(v:Value)(ps:List (List Value×BkT)): Prop where
 own:w.ownsRow base 141 3 v ps.length (Jxj ps)
 el:∀ p∈ps,BkE d (Qjp base v) w p.1 p.2
theorem BkE.len{d:Bool}{N:Nat->Prop}{w:World}{cs:List Value}{b:BkT}(h:BkE d N w cs b): cs.length=3:=by
 obtain ⟨kv,q,rfl,_⟩:=h;rfl
theorem OwnB.nil(d:Bool)(base:Nat)(w:World): OwnB d base w (.slice none 0 0) []:=⟨Jxk _ _ _ _,λp hp=>by cases hp⟩
theorem OwnB.form{d:Bool}{base:Nat}{w:World}{v:Value}{ps:List (List Value×BkT)}(h:OwnB d base w v ps): ∃ A c,v=.slice A ps.length c/\ps.length<=c/\∀ g,v.ownBlock=some g->base<=g/\g<w.heap.size:=Jjd h.own
theorem OwnB.gr{d:Bool}{base:Nat}{w w':World}{v:Value}{ps:List (List Value×BkT)}(h:OwnB d base w v ps){N:Nat->Prop}(hg:GrN N w w')(hN:∀ k,N k->k<base): OwnB d base w' v ps:=by
 obtain ⟨_,_,_,_,hf⟩:=h.form;exact ⟨Jjr h.own hg (λg eg hn=>by have:=(hf g eg).1;have:=hN g hn;omega),λp hp=>(h.el p hp).gr (hg.mono λk _ hk=>.inl (hN k hk))⟩
theorem OwnB.ext{d:Bool}{base:Nat}{w w':World}{v:Value}{ps:List (List Value×BkT)}(h:OwnB d base w v ps)(hx:Ext w w'): OwnB d base w' v ps:=h.gr (N:=λ_=>False) (GrN.ext hx) λk e=>e.elim
theorem BkE.one{d:Bool}{N:Nat->Prop}{w:World}{cs:List Value}{b:BkT}(h:BkE d N w cs b): ∀ u∈cs,u.oneCell'=true:=by
 obtain ⟨kv,q,rfl,h2,h3⟩:=h;obtain ⟨p,rfl⟩:=h3.ptr;intro u hu;simp only [List.mem_cons,List.not_mem_nil,or_false]at hu;rcases hu with rfl|rfl|rfl
 ·exact h2.v.one
 ·rfl
 ·rfl
theorem EBk: ElT Tryz.prog 138 141 3 40 (.agg #[.slice none 0 0,.bool false,.pointer none]):=⟨Tryz.underlying138,info_parts (by kernel_rfl),rfl,by decide⟩
open Go.RowKit Pl Go.Wk
theorem apB{n:Nat}{al:AL}{w:World}{Q:Exit->Act->World->Prop}{ops:Array Oper}{rest:List Oper}{d ty:Nat}{pos:String}{aft:Array Edge}{dir:Bool}{base b:Nat}{x y:Operand}{v:Value}{ps:List (List Value×BkT)}{cs:List Value}{bt:BkT}(ho:OwnB dir base w v ps)(hb:Blk w b 141 cs)(hΦ:BkE dir (Qjp base v) w cs bt)(hm:ps.length<=1000000)(hbase:base<=w.heap.size)(kk:∀ v' w',OwnB dir base w' v' (ps++[(cs,bt)])->w.grownBy w' v.ownBlock->WL Tryz.prog n ops Q rest ((d,v')::al) w')(hx:ev al x=some v:=by rfl)(hy:ev al y=some (.slice (some ⟨b,0,none⟩) 1 1):=by rfl)(hd:Nat.blt d n=true:=by rfl):
  WL Tryz.prog n ops Q (⟨some d,.call { callee:=.builtin .append,args:=#[x,y],argTypes:=#[138,138] },ty,pos,aft,none⟩::rest) al w:=by
 refine apb (m':=1) (news:=cs) EBk ho.own (hb.rd (n:=1) (by rw [hΦ.len])) hΦ.one (by unfold maxLen;omega) (by omega) hbase ?_ hx hy hd;intro v' w' ho' hg hn;refine kk v' w' ⟨?_,?_⟩ hg
 ·rw [List.length_append,List.length_singleton];have e:Jxj (ps++[(cs,bt)])=Jxj ps++cs:=by simp [Jxj]
  rw [e];exact ho'
 ·have key:∀ p:List Value×BkT,BkE dir (Qjp base v) w p.1 p.2->BkE dir (Qjp base v') w' p.1 p.2:=λp h1=>by
   have h2:BkE dir (λk=>Qjp base v k∨Qjp base v' k) w p.1 p.2:=h1.old λk hk=>by
    rcases hk with h|h|h
    ·exact .inl h
    ·exact .inl (.inl h)
    ·rcases hn k h with h'|h'
     ·exact .inl (.inr h')
     ·exact .inr h'
   exact (h2.gr (GrN.by hg λk hk=>.inl (.inr hk))).old λk hk=>.inl (.inr hk)
  intro p hp;rcases List.mem_append.1 hp with h1|h1
  ·exact key p (ho.el p h1)
  ·rw [List.mem_singleton.1 h1];exact key (cs,bt) hΦ
theorem flatC_last{ps:List (List Value×BkT)}(hl:∀ p∈ps,p.1.length=3)(kv x1 x2 y1 y2:Value)(b b':BkT):
  (Jxj (ps++[([kv,x1,x2],b)])).take (ps.length*3+1)++[y1,y2]++(Jxj (ps++[([kv,x1,x2],b)])).drop (ps.length*3+1+2)=Jxj (ps++[([kv,y1,y2],b')]):=by
 have e:∀ z:List Value×BkT,Jxj (ps++[z])=Jxj ps++z.1:=λz=>by simp [Jxj]
 have h3:=flatC_len hl;rw [e,e,<-h3];simp only;have t1:(Jxj ps++[kv,x1,x2]).take ((Jxj ps).length+1)=Jxj ps++[kv]:=by
  rw [List.take_append,List.take_of_length_le (by omega),Nat.add_sub_cancel_left];rfl
 have t2:(Jxj ps++[kv,x1,x2]).drop ((Jxj ps).length+1+2)=[]:=List.drop_of_length_le (by simp);rw [t1,t2];simp
theorem stepG_new{d:Bool}{wt:Row->Nat}{m:Nat}{bs:List (Row×Tr)}{x:Row}(h0:wt x≠0)(h1:¬ (bs.getLast?.map (·.1))=some (x.take m)): Pl.stepG d wt m bs x=bs++[(x.take m,Tr.put d (x.getD m V0) (wt x) .nil)]:=by
 rw [Pl.stepG,if_neg h0,if_neg h1]
theorem stepG_last{d:Bool}{wt:Row->Nat}{m:Nat}{i:List (Row×Tr)}{t:Tr}{x:Row}(h0:wt x≠0): Pl.stepG d wt m (i++[(x.take m,t)]) x=i++[(x.take m,Tr.put d (x.getD m V0) (wt x) t)]:=by
 rw [Pl.stepG,if_neg h0,if_pos (by simp)];simp
theorem stepG_zero{d:Bool}{wt:Row->Nat}{m:Nat}{bs:List (Row×Tr)}{x:Row}(h0:wt x=0): Pl.stepG d wt m bs x=bs:=by rw [Pl.stepG,if_pos h0]
def grpB(d:Bool)(wt:Row->Nat)(m:Nat)(rs:List Row): List BkT:=rs.foldl (Pl.stepG d wt m) []
theorem grpB_snoc(d:Bool)(wt:Row->Nat)(m:Nat)(rs:List Row)(x:Row): grpB d wt m (rs++[x])=Pl.stepG d wt m (grpB d wt m rs) x:=by
 unfold grpB;rw [List.foldl_append];rfl
theorem grpB_inv{d:Bool}{wt:Row->Nat}{m:Nat}{rs:List Row}(hs:Lt [] rs)(hl:∀ y∈rs,y.length=m+1): GInv d wt m rs (grpB d wt m rs):=by
 suffices h:∀ k,k<=rs.length->GInv d wt m (rs.take k) (grpB d wt m (rs.take k)) by
  have:=h rs.length (Nat.le_refl _);rw [List.take_length]at this;exact this
 intro k;induction k with
 | zero=>intro _;exact GInv.nil d wt m
 | succ k ih=>
  intro hk;have e:=Jjm [] (show k<rs.length by omega);rw [e,grpB_snoc];refine (ih (by omega)).step ?_ ?_
  ·rw [<-e];exact hs.sublist (List.take_sublist _ _)
  ·rw [<-e];exact λy hy=>hl y (List.mem_of_mem_take hy)
def totB(bs:List BkT)(k:Row): Nat:=match bs.find? λb=>decide (b.1=k) with
 | some b=>b.2.sum
 | none=>0
theorem totB_eq(bs:List BkT)(k:Row): totB bs k=tot (entK bs k):=by
 unfold totB entK;cases bs.find? λb=>decide (b.1=k) with
 | some b=>exact Tr.sum_eq _
 | none=>rfl
end Go.Proofs.YtefpailelagbkaaGreatDoor
