/- Part 25 of the proof: Mt, Mp. -/
import Derived.Test.YtefpailelagbkaaGreatDoorJ24
set_option linter.unusedVariables false
set_option maxRecDepth 100000
set_option maxHeartbeats 40000000
namespace Go.Proofs.YtefpailelagbkaaGreatDoor
open Go.RowKit Pl Go.Wk
attribute [local irreducible] WC WL QX WD WDB WP WN WG
def Xwr(w:World)(cs:List Value)(z:Row): Prop:=∃ v,cs=[v]/\RowV w v z
theorem Jpr: ∀ (ps:List (List Value×Row)) (w:World),(∀ p∈ps,Xwr w p.1 p.2)->∃ qs:List Pr,qs.map (·.2)=ps.map (·.2)/\qs.map (·.1)=Jxh ps/\qs.length=ps.length/\∀ q∈qs,RowV w q.1 q.2
 | [],w,_=>⟨[],rfl,rfl,rfl,λq hq=>by cases hq⟩
 | p::ps,w,h=>by
  obtain ⟨qs,h1,h2,h3,h4⟩:=Jpr ps w λq hq=>h q (List.mem_cons_of_mem _ hq);obtain ⟨v,e,hr⟩:=h p (List.mem_cons_self ..);refine ⟨(v,p.2)::qs,by simp [h1],?_,by simp [h3],λq hq=>?_⟩
  ·simp only [Jxh,List.flatMap_cons,List.map_cons,e]at h2 ⊢;rw [h2];rfl
  ·rcases List.mem_cons.1 hq with rfl|hq
   ·exact hr
   ·exact h4 q hq
theorem Qcn{w:World}{v:Value}{ls:List Row}(h:GV 1 Xwr w v ls): RowsV w v ls:=by
 obtain ⟨ps,A,c,e,e1,e2,e3,hr,hp⟩:=h;obtain ⟨qs,h1,h2,h3,h4⟩:=Jpr ps w λp hm=>(hp p hm).2;rw [<-h3]at e1 e2 e3 hr;exact ⟨qs,A,c,by rw [e,h1],e1,e2,e3,by rw [h2];exact hr,h4⟩
def YM(b:Nat)(base:Nat)(l:List Row)(w:World): Prop:=b<base/\∃ v,Blk w b 35 [v]/\OwnG 40 1 Xwr w base v l
theorem Qrs{s b:Nat}(hb:b<s): YZ s (.func (.func 157) #[] #[.pointer (some ⟨b,0,none⟩)]) (λk=>k=b) (YM b):=by
 refine ⟨λbase l w w' h hg=>?_,_,_,_,rfl,λbase l w w1 vr z hbase h hx hr hl=>?_⟩
 ·obtain ⟨hbb,v,hB,hO⟩:=h;exact ⟨hbb,v,Jqb hB hg (λe=>by omega),hO.gr hg λk hk=>hk.2⟩
 obtain ⟨hbb,v,hB,hO⟩:=h;have hB1:=hB.ext hx;have hO1:=hO.ext hx;obtain ⟨RA,rn,rc,erv,_,_,_⟩:∃ A n c,vr=.slice A n c/\True/\True/\True:=by obtain ⟨A,c,e,_⟩:=hr;exact ⟨A,_,c,e,trivial,trivial,trivial⟩
 refine Jjb Tryz.func157 Tryz.ntmps157 rfl (by kernel_rfl) rfl ?_;refine ρ ?_;refine ld (hB1.at (i:=0) rfl) ?_;refine ρ ?_;refine bsl (cs:=[vr]) (λw=>Qbr vr w RA rn rc erv) ?_;intro w2 b2 hx2 hb2 hB2;obtain ⟨_,_,_,_,hf⟩:=hO1.form;have hΦ:Off (Jbl base v) w2 (λu=>Xwr u [vr] z):=((hr.off.mono λk hk h=>by
  rcases h with h|h
  ·omega
  ·obtain ⟨_,_,_,_,hf0⟩:=hO.form;exact (hf0 k h).2).imp λu h=>⟨vr,rfl,h⟩).ext hx2
 refine ρ ?_;refine apG ER (Φ:=Xwr) (hO1.ext hx2) hB2 rfl (λu hu=>by rw [List.mem_singleton.1 hu,erv];rfl) hΦ (by omega) (by omega) (Nat.le_trans hbase (hx.trans hx2).size) ?_;intro v3 w3 hO3 hg3 hn3;obtain ⟨A3,c3,e3,hc3,hf3⟩:=hO3.form;have hgN3:GrN (λk=>k=b∨base<=k) w1 w3:=(GrN.ext hx2).trans (GrN.by hg3 λk ek=>.inr (hf k ek).1);have hnb:some b≠v.ownBlock:=by
  obtain ⟨ps,_,ho,_⟩:=hO1;exact hB1.ne_own ho rfl
 have hB3:Blk w3 b 35 [v]:=(hB1.ext hx2).grown hg3 hnb;refine ρ ?_;refine sto (p:=⟨b,0,none⟩) (hB3.cell 0) (hB3.frozen _) ?_ (hv:=by rw [e3];rfl);have hB4:=hB3.set 0 v3;have hg4:GrN (λk=>k=b) w3 (w3.setCell ⟨b,0,none⟩ v3):=GrN.set _ rfl;refine ρ ?_;have hl':(l++[z]).length=l.length+1:=by simp
 rw [hl']at e3;refine ld (v:=.slice A3 (l.length+1) c3) ((hB4.at (i:=0) rfl).trans (by simp [e3])) ?_;refine ρ ?_;have hO4:OwnG 40 1 Xwr (w3.setCell ⟨b,0,none⟩ v3) base v3 (l++[z]):=hO3.gr hg4 λk hk=>by omega
 refine Jjq ⟨?_,⟨hbb,v3,hB4,hO4⟩,hgN3.trans (hg4.mono λk _ hk=>.inl hk)⟩;rw [decide_eq_true (show ((l.length+1:Nat):Int)<=65536 by omega)]
theorem Qtg(z:Int)(A:Option Addr)(n c:Nat)(w:World): (Instr.build 69 #[(1,.agg #[.int .i64 z,.slice A n c])]).run Tryz.prog w=.ok (.agg #[.slice none 0 0,.int .i64 z,.slice A n c]) w:=by kernel_rfl
theorem Qrt{w:World}{b:Nat}{Na:Option Addr}{nums:List Nat}{t:V3}{vars:List Nat}{ar:Nat}{rs:List Row}(hA:AtV w t ⟨nz vars,ar,rs⟩)(hB:Blk w b 23 [.slice Na nums.length nums.length])(hN:Rd w 1 Na nums.length (Jzw (nz nums)))(hlt:∀ v∈vars,v<nums.length)(hl:vars.length<=1000):
  Ret Tryz.prog 154 [.agg t.cells.toArray,.pointer (some ⟨b,0,none⟩)] w λu w'=>Ext w w'/\∃ v1,u=.agg #[v1,t.2.1,t.2.2]/\Off (λk=>k<w.heap.size) w' (λx=>IntsV x v1 (nz (vars.map λv=>nums.getD v 0))):=by
 obtain ⟨t1,t2,t3⟩:=t;obtain ⟨⟨D,d,e1,hd,hdm,hdr⟩,e2,hrows⟩:=id hA;simp only at e1 e2;subst e1;subst e2;obtain ⟨ps,G,gc,_,hv3,_⟩:=id hrows;simp only at hv3;subst hv3;have hnl:=Jqc vars;have hdr':Rd w 1 D (nz vars).length (Jzw (nz vars)):=hdr;clear hdr hd hdm;refine Jjb Tryz.func154 Tryz.ntmps154 rfl (by kernel_rfl) rfl ?_;refine ρ ?_;refine bx (cs:=[.slice D (nz vars).length d,.int .i64 (ar:Int),.slice G ps.length gc]) ?_;intro w1 b1 hx1 hb1 hB1;refine ρ ?_;refine alc (cs:=[.slice none 0 0,.int .i64 0,.slice none 0 0]) Jdg ?_;intro w2 b2 hx2 hb2 hB2;refine ρ ?_;refine lds (cs:=[.int .i64 (ar:Int),.slice G ps.length gc]) ((hB1.ext hx2).sub2 (i:=1) rfl rfl) ?_;refine ρ ?_;refine bld (Qtg _ _ _ _ _) ?_;refine ρ ?_;refine alc (cs:=[.slice none 0 0,.int .i64 0,.slice none 0 0]) Jdg ?_;intro w3 b3 hx3 hb3 hB3;refine ρ ?_;refine stb (cs':=[.slice none 0 0,.int .i64 (ar:Int),.slice G ps.length gc]) hB3 ?_ (λu hu=>by
  simp only [List.mem_cons,List.not_mem_nil,or_false]at hu;rcases hu with rfl|rfl|rfl<;>rfl)
 intro w4 hB4 hg4 hx4;have hx24:Ext w2 w4:=hx4 w2 hx3 hb3;have hxw4:Ext w w4:=(hx1.trans hx2).trans hx24;have hB14:=(hB1.ext hx2).ext hx24;have hB24:=hB2.ext hx24;refine ρ ?_;refine ld (hB14.at (i:=0) rfl) ?_;refine ρ ?_;refine Jjv (fun (k:Nat) (vv:Value)=>[(1,.pointer (some ⟨b,0,none⟩)),(3,.pointer (some ⟨b2,0,none⟩)),(4,.pointer (some ⟨b3,0,none⟩)),(11,.slice D (nz vars).length d),(12,.int .i64 ((nz vars).length:Int)),(13,.int .i64 (k:Int))])
  (λk vv w'=>k<=vars.length/\Ext w w'/\Blk w' b2 69 [.slice none 0 0,.int .i64 0,.slice none 0 0]/\Blk w' b3 69 [vv,.int .i64 (ar:Int),.slice G ps.length gc]/\Jpf w' w.heap.size vv ((vars.take k).map λv=>nums.getD v 0)) (λk _=>vars.length-k) 0 (.slice none 0 0) sB
  ⟨Nat.zero_le _,hxw4,hB24,hB4,Jxj _ _ _ _⟩ ?_
 rintro k vv w5 ⟨hk,hx5,hB25,hB35,hv5⟩;refine ρ ?_;refine ci (λh=>?_) (λh=>?_)
 ·have lk:k<vars.length:=by have:=of_decide_eq_true h;omega
  clear h;have hD5:=hdr'.ext hx5;have hvk:=hlt _ (getD_mem' 0 _ lk);obtain ⟨own,hown⟩:∃ own,own=vv.ownBlock:=⟨_,rfl⟩;have hge:∀ j,own=some j->w.heap.size<=j:=λj ej=>by
   obtain ⟨_,_,_,_,hf⟩:=Jjd hv5;exact (hf j (by rw [<-hown];exact ej)).1
  have hl5:((vars.take k).map λv=>nums.getD v 0).length<=1000:=by simp;omega
  refine ρ ?_;refine ix k hD5 (by omega) ?_;refine ρ ?_;refine ld (hD5.cell (Jxw lk)) ?_;refine ρ ?_;refine drN (one own) 8 [(0,0),(0,1),(0,2),(0,3),(0,4),(0,5),(1,6),(1,7),(0,8),(2,9)] (by kernel_rfl) ?_;have hxd:Ext w5 w5.drew:=(Ext.refl w5).drew;have hB3d:=hB35.ext hxd;have hBd:=hB.ext (hx5.trans hxd);have hNd:=hN.ext (hx5.trans hxd);have hvd:=Jjc hv5 hxd;have n3:¬ one own b3:=λe=>hB3d.ne_own hvd rfl (by rw [<-hown];exact e.symm);have nold:∀ {g:Nat},g<w.heap.size->¬ one own g:=λhg e=>by have:=hge _ e;omega
  refine ρn ?_;refine nld (Jjg (hB3d.at (i:=0) rfl) n3) ?_;refine ρn ?_;refine nld (Jjg (hBd.at (i:=0) rfl) (nold hB.lt)) ?_;refine ρn ?_;refine nix (vars.getD k 0) hNd hvk ?_;refine ρn ?_;refine nld (λw' hg=>(Qzl hNd hg (λh0 ad e=>nold (by
   obtain ⟨ad',e',hlt',_⟩:=hN.2 h0;rw [e]at e';injection e' with e';subst e';exact hlt'))).cell (Jxw hvk)) ?_
  refine ρn ?_;refine nop ?_;refine bsl (bs1Int'' _) ?_;intro w6 b6 hx6 hb6 hB6;refine ρ ?_;refine Jqm (GrN.ext hx6) ?_;refine nop ?_;refine apI (Jjc hvd hx6) hB6 (by omega) (((hx5.trans hxd).trans hx6).size) ?_;intro vv7 w7 hv7 hg7 hn7;refine ρ ?_;refine Jqm (GrN.by hg7 λj ej=>by rw [<-hown]at ej;exact ej) ?_;refine ρn ?_;refine Jkj ?_;have hB37:=(hB3d.ext hx6).grown hg7 ((hB3d.ext hx6).ne_own (Jjc hvd hx6) rfl);have hB27:=((hB25.ext hxd).ext hx6).grown hg7 (((hB25.ext hxd).ext hx6).ne_own (Jjc hvd hx6) rfl);have hx7:Ext w w7:=Jjk ((hx5.trans hxd).trans hx6) hg7 (λj ej=>hge j (by rw [hown];exact ej));have h17:vv7.oneCell'=true:=by obtain ⟨_,_,e,_⟩:=Jjd hv7;rw [e];rfl
  refine sto (p:=⟨b3,0,none⟩) (hB37.cell 0) (hB37.frozen _) ?_ (hv:=h17);have hgs:GrN (λk=>k=b3) w7 (w7.setCell ⟨b3,0,none⟩ vv7):=GrN.set _ rfl;have hbw:w.heap.size<=b3:=by have:=(hx1.trans hx2).size;omega
  refine ω5 ?_;refine Jch ?_;refine ρn ?_;refine ρ ?_;refine Jjj (k+1) vv7 sO ⟨by omega,hx7.setCell hbw _,hB27.far (by simp only;have:=hB2.lt;omega) _,hB37.set 0 vv7,?_⟩ (by omega);rw [Jjm 0 lk,List.map_append];exact Jjr hv7 hgs (λg eg e=>by subst e;exact hB37.ne_own hv7 rfl eg.symm)
 have hk':k=vars.length:=by have:=of_decide_eq_false h;omega
 subst hk';clear h;rw [List.take_length]at hv5;obtain ⟨VA,vac,eva,hva,hvf⟩:=Jjd hv5;rw [List.length_map]at eva hva;refine ρ ?_;refine lds (cs:=[vv,.int .i64 (ar:Int),.slice G ps.length gc]) (λj u hu=>hB35.at hu) ?_;refine ρ ?_;refine stb (cs':=[vv,.int .i64 (ar:Int),.slice G ps.length gc]) hB25 ?_ (λu hu=>by
  simp only [List.mem_cons,List.not_mem_nil,or_false]at hu;rcases hu with rfl|rfl|rfl
  ·rw [eva];rfl
  ·rfl
  ·rfl)
 intro w6 hB26 hg6 hx6;refine ρ ?_;have hb2w:w.heap.size<=b2:=by have:=hx1.size;omega
 refine Qwd hB26 ⟨hx6 w hx5 hb2w,vv,rfl,?_⟩;have hv6:Jpf w6 w.heap.size vv (vars.map λv=>nums.getD v 0):=Jjr hv5 (GrN.by hg6 λg eg=>eg) (λg eg e=>by injection e with e;subst e;exact hB25.ne_own hv5 rfl eg.symm);refine (Jfv hv6 (λg eg hk=>by have:=(hvf g eg).1;omega)).imp λx h=>⟨VA,vac,by rw [Jqc,List.length_map];exact eva,by rw [Jqc,List.length_map];exact hva,by rw [Jqc,List.length_map];omega,?_⟩;rw [eva]at h;rw [Jqc,List.length_map];simp only [List.length_map]at h;exact Rd.own h
end Go.Proofs.YtefpailelagbkaaGreatDoor
namespace Go.Proofs.YtefpailelagbkaaGreatDoor
open Pl Go.Wk
def bk(s v:Nat): List Nat:=(List.range v).filter λu=>s.testBit u
theorem bk_mem{s v u:Nat}: u∈bk s v↔u<v/\s.testBit u=true:=by simp [bk]
theorem Jwt(s v:Nat): bk s (v+1)=bk s v++if s.testBit v then [v] else []:=by
 unfold bk;rw [List.range_succ,List.filter_append];congr 1
 by_cases h:s.testBit v=true
 ·rw [if_pos h];simp only [List.filter_cons,List.filter_nil,h,if_true]
 ·rw [if_neg h];simp only [List.filter_cons,List.filter_nil,h];rfl
theorem Jnt(s v:Nat): Jcn (bk s v):=List.Pairwise.sublist List.filter_sublist List.pairwise_lt_range
theorem Jvg(s v:Nat): (bk s v).length<=v:=by
 have:=List.length_filter_le (λu=>s.testBit u) (List.range v);rw [List.length_range]at this;exact this
theorem Xbh(s n:Nat): ∀ u,u<=n->lv (bk s n) u=(bk s u).length
 | 0,_=>by rw [Jmn];rfl
 | u+1,h=>by
  have ih:=Xbh s n u (by omega);rw [Jwt,List.length_append,<-ih];by_cases hb:s.testBit u=true
  ·rw [if_pos hb,(Jwq (Jnt s n) (bk_mem.2 ⟨by omega,hb⟩)).1];rfl
  ·rw [if_neg hb,Jmp (λh'=>hb (bk_mem.1 h').2)];rfl
theorem Qks{vs:List Nat}(ha:Jcn vs){k:Nat}(hk:k<vs.length): lv vs (vs.getD k 0)=k:=by
 obtain ⟨_,h2,h3⟩:=Jwq ha (getD_mem' 0 vs hk);exact Qqq (Qzf ha) h2 hk ((Jjh 0 vs h2).symm.trans (h3.trans (Jjh 0 vs hk)))
theorem Jbt{s n:Nat}(hs:s<2^n){u:Nat}(h:s.testBit u=true): u<n:=by
 rcases Nat.lt_or_ge u n with h'|h'
 ·exact h'
 ·rw [Nat.testBit_lt_two_pow (Nat.lt_of_lt_of_le hs (Nat.pow_le_pow_right (n:=2) (by decide) h'))]at h;cases h
def Jpl(s v:Nat): List Nat:=(List.range 32).map λu=>if u<v/\s.testBit u=true then (bk s u).length else 0
theorem Jbm(s v:Nat): (Jpl s v).length=32:=by simp [Jpl]
theorem Qrr{s u:Nat}(hu:u<32)(h:s.testBit u=true): (Jpl s 32).getD u 0=lv (bk s 32) u:=by
 rw [Xbh s 32 u (by omega)];simp [Jpl,List.getD,hu,h]
theorem Qym{s v:Nat}(hv:v<32): Jpl s (v+1)=if s.testBit v then (Jpl s v).set v (bk s v).length else Jpl s v:=by
 apply List.ext_getElem?
 intro i;by_cases h:s.testBit v=true
 ·rw [if_pos h,List.getElem?_set];by_cases e:v=i
  ·subst e;rw [if_pos rfl,if_pos (by rw [Jbm];exact hv)];simp [Jpl,hv,h]
  ·rw [if_neg e];by_cases hi:i<32
   ·simp only [Jpl,List.getElem?_map,List.getElem?_range hi,Option.map_some];congr 1
    have:(i<v+1/\s.testBit i=true)↔(i<v/\s.testBit i=true):=by constructor<;>(rintro ⟨a,b⟩;exact ⟨by omega,b⟩)
    simp only [this]
   ·simp [Jpl,hi]
 ·rw [if_neg h];by_cases hi:i<32
  ·simp only [Jpl,List.getElem?_map,List.getElem?_range hi,Option.map_some];congr 1
   have:(i<v+1/\s.testBit i=true)↔(i<v/\s.testBit i=true):=by
    constructor
    ·rintro ⟨a,b⟩;refine ⟨?_,b⟩;rcases Nat.lt_or_ge i v with h'|h'
     ·exact h'
     ·have:i=v:=by omega
      subst this;exact absurd b h
    ·rintro ⟨a,b⟩;exact ⟨by omega,b⟩
   simp only [this]
  ·simp [Jpl,hi]
def rnm(vars:List Nat)(s:Nat): List Nat:=(inS vars s).map λv=>lv (bk s 32) v
theorem inS_mem{vars:List Nat}{s v:Nat}: v∈inS vars s↔v∈vars/\s.testBit v=true:=by simp [inS]
theorem Xzw{vars:List Nat}{s:Nat}(h:Jcn vars): Jcn (inS vars s):=List.Pairwise.sublist List.filter_sublist h
theorem Xzq{vs:List Nat}(ha:Jcn vs){u v:Nat}(hu:u∈vs)(h:u<v): lv vs u<lv vs v:=by
 have h1:=(Jwq ha hu).1;have mono:∀ k,lv vs (u+1)<=lv vs (u+1+k):=by
  intro k;induction k with
  | zero=>exact Nat.le_refl _
  | succ k ih=>
   by_cases h:u+1+k∈vs
   ·have:=(Jwq ha h).1;rw [<-Nat.add_assoc,this];omega
   ·rw [<-Nat.add_assoc,Jmp h];exact ih
 have:=mono (v-(u+1));rw [show u+1+(v-(u+1))=v by omega]at this;omega
theorem Xxq{vars:List Nat}{s:Nat}(h:Jcn vars)(hl:∀ v∈vars,v<32): Jcn (rnm vars s):=by
 unfold rnm Jcn;rw [List.pairwise_map];refine List.Pairwise.imp_of_mem (fun {u v} hu hv huv=>?_) (Xzw (s:=s) h);exact Xzq (Jnt s 32) (bk_mem.2 ⟨hl u (inS_mem.1 hu).1,(inS_mem.1 hu).2⟩) huv
theorem Xyh{vars:List Nat}{s:Nat}(hl:∀ v∈vars,v<32){k:Nat}(hk:k∈rnm vars s): k<(bk s 32).length:=by
 obtain ⟨v,hv,rfl⟩:=List.mem_map.1 hk;obtain ⟨h1,h2⟩:=inS_mem.1 hv;exact (Jwq (Jnt s 32) (bk_mem.2 ⟨hl v h1,h2⟩)).2.1
theorem Qhq(vars:List Nat)(s:Nat): (rnm vars s).length=(inS vars s).length:=by simp [rnm]
def Qtq(m:Nat)(vars:Nat->List Nat)(rs:Nat->List Row)(s:Nat)(z:Row): Prop:=∀ i,i<m->∃ r∈rs i,∀ j,j<(vars i).length->s.testBit ((vars i).getD j 0)=true->r.getD j V0=z.getD ((vars i).getD j 0) V0
theorem Qwn{vars:List Nat}{s:Nat}{r z:Row}(hr:r.length=vars.length): ∀ k,k<=vars.length->(pmR (Jwh vars s k) r=pmR (inS (vars.take k) s) z↔∀ j,j<k->s.testBit (vars.getD j 0)=true->r.getD j V0=z.getD (vars.getD j 0) V0)
 | 0,_=>by simp [Jwh,inS,pmR]
 | k+1,h=>by
  have ih:=Qwn (s:=s) (z:=z) hr k (by omega);have hcl:=Jfc vars s k (by omega);rw [Jzj,Jdt (by omega)];by_cases hb:s.testBit (vars.getD k 0)=true
  ·rw [if_pos hb,if_pos hb];have e1:pmR (Jwh vars s k++[k]) r=pmR (Jwh vars s k) r++[r.getD k V0]:=by simp [pmR]
   have e2:pmR (inS (vars.take k) s++[vars.getD k 0]) z=pmR (inS (vars.take k) s) z++[z.getD (vars.getD k 0) V0]:=by simp [pmR]
   rw [e1,e2];constructor
   ·intro he j hj hbj;obtain ⟨h1,h2⟩:=List.append_inj he (by rw [Jqx,Jqx,hcl]);by_cases e:j=k
    ·subst e;injection h2
    ·exact ih.1 h1 j (by omega) hbj
   ·intro hall;rw [ih.2 λj hj=>hall j (by omega),hall k (by omega) hb]
  ·rw [if_neg hb,if_neg hb,List.append_nil,List.append_nil,ih];constructor
   ·intro hall j hj hbj;by_cases e:j=k
    ·subst e;exact absurd hbj hb
    ·exact hall j (by omega) hbj
   ·exact λhall j hj=>hall j (by omega)
theorem Xzm{n m:Nat}{vars:Nat->List Nat}{rs ms:Nat->List Row}{s:Nat}(hs:s<2^n)(hn:n<=32)(hlt:∀ i,i<m->∀ v∈vars i,v<n)(hlen:∀ i,i<m->∀ r∈rs i,r.length=(vars i).length)(hms:∀ i,i<m->∀ x,x∈ms i↔x∈(rs i).map (pmR (Jqt (vars i) s)))(x:Row):
  Qjl (bk s 32).length m (λi=>rnm (vars i) s) ms x↔∃ z:Row,z.length=n/\x=pmR (bk s 32) z/\Qtq m vars rs s z:=by
 have key:∀ z:Row,∀ i,i<m->(pmR (rnm (vars i) s) (pmR (bk s 32) z)∈ms i↔∃ r∈rs i,∀ j,j<(vars i).length->s.testBit ((vars i).getD j 0)=true->r.getD j V0=z.getD ((vars i).getD j 0) V0):=λz i hi=>by
  have e:pmR (rnm (vars i) s) (pmR (bk s 32) z)=pmR (inS (vars i) s) z:=by
   unfold rnm pmR;rw [List.map_map];refine List.map_congr_left λv hv=>?_;obtain ⟨h1,h2⟩:=inS_mem.1 hv;have hb:v∈bk s 32:=bk_mem.2 ⟨by have:=hlt i hi v h1;omega,h2⟩;obtain ⟨_,h4,h5⟩:=Jwq (Jnt s 32) hb;have:=Jsq (r:=z) h4;unfold pmR at this;simp only [Function.comp];rw [this,h5]
  rw [e,hms i hi,List.mem_map];have hk:∀ r∈rs i,(pmR (Jqt (vars i) s) r=pmR (inS (vars i) s) z↔∀ j,j<(vars i).length->s.testBit ((vars i).getD j 0)=true->r.getD j V0=z.getD ((vars i).getD j 0) V0):=λr hr=>by
   have:=Qwn (s:=s) (z:=z) (hlen i hi r hr) (vars i).length (Nat.le_refl _);rw [List.take_length]at this;exact this
  constructor
  ·rintro ⟨r,hr,e⟩;exact ⟨r,hr,(hk r hr).1 e⟩
  ·rintro ⟨r,hr,h⟩;exact ⟨r,hr,(hk r hr).2 h⟩
 constructor
 ·rintro ⟨hl,hx⟩;let z:Row:=(List.range n).map λu=>x.getD (lv (bk s 32) u) V0
  have hzl:z.length=n:=by simp [z]
  have hxz:x=pmR (bk s 32) z:=by
   apply List.ext_getElem
   ·rw [Jqx];exact hl
   ·intro k h1 h2;rw [Jqx]at h2;have hu:=bk_mem.1 (getD_mem' 0 _ h2);have hun:=Jbt hs hu.2;have h3:=Xyn (z:=z) h2;rw [Jjh V0 _ (by rw [Jqx];exact h2)]at h3;rw [h3];have h4:z.getD ((bk s 32).getD k 0) V0=x.getD (lv (bk s 32) ((bk s 32).getD k 0)) V0:=by
     simp only [z,List.getD];rw [List.getElem?_map,List.getElem?_range (by simpa [List.getD] using hun)];rfl
    rw [h4,Qks (Jnt s 32) h2,Jjh V0 _ h1]
  refine ⟨z,hzl,hxz,λi hi=>?_⟩;have:=hx i hi;rw [hxz]at this;exact (key z i hi).1 this
 ·rintro ⟨z,hzl,rfl,hb⟩;exact ⟨Jqx _ _,λi hi=>(key z i hi).2 (hb i hi)⟩
end Go.Proofs.YtefpailelagbkaaGreatDoor
