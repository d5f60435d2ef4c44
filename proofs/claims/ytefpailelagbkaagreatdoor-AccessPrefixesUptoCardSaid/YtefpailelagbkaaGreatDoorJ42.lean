/- Part 42 of the proof: Rf2, Rf3, Rf4. -/
import Derived.Test.YtefpailelagbkaaGreatDoorJ41
set_option linter.unusedVariables false
set_option maxRecDepth 100000
set_option maxHeartbeats 40000000
namespace Go.Wk
open Go.RowKit
section
variable {P:Program} {n:Nat} {al:AL} {w:World} {Q:Exit->Act->World->Prop} {ops:Array Oper} {rest:List Oper} {d ty:Nat} {pos:String} {aft:Array Edge}
theorem sr32g{x y:Operand}{t yt:TypeId}{k2:IntKind}{s v:Nat}(hv:v<=32)(kk:WL P n ops Q rest ((d,.int .u32 ((s / 2^v:Nat):Int))::al) w)(hx:ev al x=some (.int .u32 (s:Int)):=by rfl)(hy:ev al y=some (.int k2 (v:Int)):=by rfl)(hd:Nat.blt d n=true:=by rfl):
  WL P n ops Q (⟨some d,.binOp .shr t x y yt,ty,pos,aft,none⟩::rest) al w:=by
 rw [<-Qjw s v hv]at kk;exact wop hd (λa ha=>Qhk hx hy (by omega) ha (some d) w) kk
theorem Xyb{y:Operand}{t yt:TypeId}{k2:IntKind}{v:Nat}(hv:v<32)(kk:WL P n ops Q rest ((d,.int .u32 ((2^v:Nat):Int))::al) w)(hy:ev al y=some (.int k2 (v:Int)):=by rfl)(hd:Nat.blt d n=true:=by rfl):
  WL P n ops Q (⟨some d,.binOp .shl t (.const (.int .u32 1)) y yt,ty,pos,aft,none⟩::rest) al w:=by
 rw [<-Jdm hv]at kk;exact wop hd (λa ha=>Jlr (x:=.const (.int .u32 1)) rfl hy (by omega) ha (some d) w) kk
end
end Go.Wk
namespace Go.Proofs.YtefpailelagbkaaGreatDoor
open Go.RowKit Pl Go.Wk
attribute [local irreducible] WC WL QX WD WDB WP WN WG WH
theorem IntsV.n{w:World}{v:Value}{l:List Nat}(h:IntsV w v (nz l)): ∃ A c,v=.slice A l.length c/\l.length<=c/\l.length<=1100000/\Rd w 1 A l.length (Jzw (nz l)):=by
 obtain ⟨A,c,h1,h2,h3,h4⟩:=h;rw [Jqc]at h1 h2 h3 h4;exact ⟨A,c,h1,h2,h3,h4⟩
theorem Qvw{s v:Nat}(hs:s<4294967296)(hv:v<=32)(w:World): Ret Tryz.prog 183 [.int .u32 (s:Int),.int .i64 (v:Int)] w λu w'=>u=.bool (s.testBit v)/\w'=w:=by
 refine Jjb Tryz.func183 Tryz.ntmps183 rfl (by kernel_rfl) rfl ?_;refine ρ ?_;refine Go.Wk.kv 7 (congrArg (λz=>Value.int .u64 z) (Qpt (z:=(v:Int)) (by omega))) ?_;refine sr32g (s:=s) (v:=v) hv ?_;refine ρ ?_;rw [Jkc hs];exact Jjq ⟨rfl,rfl⟩
theorem Qvv{l:List Nat}{v:Value}{w:World}(h:IntsV w v (nz l))(hl:∀ u∈l,u<32): Ret Tryz.prog 184 [v] w λu w'=>u=.int .u32 (Jqd l:Int)/\w'=w:=by
 obtain ⟨A,c,rfl,hc,hm,hR⟩:=h.n;refine Jjb Tryz.func184 Tryz.ntmps184 rfl (by kernel_rfl) rfl ?_;refine ρ ?_;refine Jqn (fun (i:Nat)=>[(0,.slice A l.length c),(3,.int .u32 (Jqd (l.take i):Int)),(4,.int .i64 (i:Int))])
  (λi w'=>i<=l.length/\w'=w) (λi=>l.length-i) 0 sB ⟨Nat.zero_le _,rfl⟩ ?_
 rintro i w1 ⟨hi,rfl⟩;refine ρ ?_;refine ci (λh=>?_) (λh=>?_)
 ·have li:i<l.length:=by have:=of_decide_eq_true h;omega
  clear h;have hv32:=hl _ (getD_mem' 0 l li);refine ρ ?_;refine ix i hR li ?_;refine ρ ?_;refine ld (hR.cell (Jxw li)) ?_;refine ρ ?_;refine Go.Wk.kv 16 (congrArg (λz=>Value.int .u64 z) (Qpt (z:=(l.getD i 0:Int)) (by omega))) ?_;refine Xyb (v:=l.getD i 0) hv32 ?_;refine ρ ?_;have e:Jqd (l.take (i+1))=Jqd (l.take i) ||| 2^l.getD i 0:=by rw [Jjm 0 li];exact Jrn _ _ _
  have hb:Jqd (l.take i)<4294967296:=Jvr (n:=32) λv hv=>hl v (List.mem_of_mem_take hv);have ho:=Jdc hb (Jwc hv32);rw [ho,<-e];exact Jjt (i+1) sO ⟨li,rfl⟩ (by omega)
 ·have hi':i=l.length:=by have:=of_decide_eq_false h;omega
  subst hi';clear h;refine ρ ?_;rw [List.take_length];exact Jjq ⟨rfl,rfl⟩
theorem Jgr{vars:List Nat}{s:Nat}{r:Row}{rv vv:Value}{w:World}(hr:RowV w rv r)(hv:IntsV w vv (nz vars))(hs:s<4294967296)(hl:∀ u∈vars,u<32)(hrl:r.length=vars.length):
  Ret Tryz.prog 185 [rv,vv,.int .u32 (s:Int)] w λu w'=>RowV w' u (pmR (Jqt vars s) r)/\Ext w w':=by
 obtain ⟨A,c,rfl,hc,hm,hR⟩:=id hr;obtain ⟨B,d,rfl,hd,hm2,hV⟩:=hv.n;refine Jjb Tryz.func185 Tryz.ntmps185 rfl (by kernel_rfl) rfl ?_;refine ρ ?_;refine bsl Jhf ?_;intro w0 b0 hx0 hb0 hB0;refine ρ ?_;refine Jjv (fun (k:Nat) (vo:Value)=>[(0,.slice A r.length c),(1,.slice B vars.length d),(2,.int .u32 (s:Int)),(7,vo),(8,.int .i64 (k:Int))])
  (λk vo w'=>k<=vars.length/\Ext w w'/\Qjd w' w.heap.size vo (pmR (Jwh vars s k) r)) (λk _=>vars.length-k) 0 (.slice (some ⟨b0,0,none⟩) 0 0) sB
  ⟨Nat.zero_le _,hx0,hB0.own (n:=0) hb0 rfl (Nat.zero_le _)⟩ ?_
 rintro k vo w1 ⟨hk,hx1,ho⟩;refine ρ ?_;refine ci (λh=>?_) (λh=>?_)
 ·have lk:k<vars.length:=by have:=of_decide_eq_true h;omega
  clear h;have hR1:RdR w1 A r:=Rd.ext hR hx1;have hv32:=hl _ (getD_mem' 0 vars lk);have hcl:(Jwh vars s k).length<=k:=by
   have:=List.length_filter_le (λi=>s.testBit (vars.getD i 0)) (List.range k);rw [List.length_range]at this;exact this
  refine ρ ?_;refine ix k (hV.ext hx1) lk ?_;refine ρ ?_;refine ld ((hV.ext hx1).cell (Jxw lk)) ?_;refine ρ ?_;refine cl (Qvw hs (Nat.le_of_lt hv32) w1) ?_;rintro _ w1' ⟨rfl,e1⟩;rw [e1];clear e1 w1';refine ρ ?_;refine ci (λh=>?_) (λh=>?_)
  ·refine ρ ?_;refine ixq 3 k hR1 (by omega) ?_;refine ρ ?_;refine lds (cs:=(r.getD k V0).cells) (λj u hu=>RdR.cell hR1 (by omega) hu) ?_;refine ρ ?_;refine bsl (Qwp _) ?_;intro w2 b hx2 hb hB;refine ρ ?_;refine apb (m':=1) (news:=(r.getD k V0).cells) EV (Jjc ho hx2) (hB.rd (n:=1) rfl) (V.one _) (by rw [Jqx];unfold maxLen;omega) (by rw [Jqx];omega) (hx1.trans hx2).size ?_;intro v3 w3 ho3 hg3 hn3;refine ρ ?_;refine Jjj (k+1) v3 sO ⟨lk,Jjk (hx1.trans hx2) hg3 (Jwd (Jjc ho hx2)),?_⟩ (by omega);have e:pmR (Jwh vars s (k+1)) r=pmR (Jwh vars s k) r++[r.getD k V0]:=by rw [Jzj,if_pos h];simp [pmR]
   rw [Qjd,e,List.length_append,rowC_app',rowC_one''];exact ho3
  ·refine ρ ?_;refine Jjj (k+1) vo sO ⟨lk,hx1,?_⟩ (by omega);rw [Jzj,if_neg (by rw [h];simp),List.append_nil];exact ho
 ·have hk':k=vars.length:=by have:=of_decide_eq_false h;omega
  rw [hk']at ho;have hcl:(Jwh vars s vars.length).length<=vars.length:=by
   have:=List.length_filter_le (λi=>s.testBit (vars.getD i 0)) (List.range vars.length);rw [List.length_range]at this;exact this
  obtain ⟨A3,c3,rfl,hc3,_⟩:=Jjd ho;refine ρ ?_;refine Jjq ⟨⟨A3,c3,rfl,hc3,?_,Rd.own ho⟩,hx1⟩;show (pmR (Jwh vars s vars.length) r).length<=_;rw [Jqx];omega
theorem Qhs{s:Nat}(hs:s<4294967296)(w:World): Ret Tryz.prog 160 [.int .u32 (s:Int)] w λu w'=>IntsV w' u (nz (bk s 32))/\Ext w w':=by
 refine Jjb Tryz.func160 Tryz.ntmps160 rfl (by kernel_rfl) rfl ?_;refine ρ ?_;refine Jjv (fun (k:Nat) (vo:Value)=>[(0,.int .u32 (s:Int)),(3,vo),(4,.int .i64 (k:Int))])
  (λk vo w'=>k<=32/\Ext w w'/\Jpf w' w.heap.size vo (bk s k)) (λk _=>32-k) 0 (.slice none 0 0) sB
  ⟨Nat.zero_le _,Ext.refl _,Jxj _ _ _ _⟩ ?_
 rintro k vo w1 ⟨hk,hx1,ho⟩;refine ρ ?_;refine ci (λh=>?_) (λh=>?_)
 ·have lk:k<32:=by have:=of_decide_eq_true h;omega
  clear h;have hcl:=Jvg s k;refine ρ ?_;refine cl (Qvw hs hk w1) ?_;rintro _ w1' ⟨rfl,e1⟩;rw [e1];clear e1 w1';refine ρ ?_;refine ci (λh=>?_) (λh=>?_)
  ·refine ρ ?_;refine bsl (bs1Int'' _) ?_;intro w2 b hx2 hb hB;refine ρ ?_;refine apI (Jjc ho hx2) hB (by omega) (hx1.trans hx2).size ?_;intro v3 w3 ho3 hg3 hn3;refine ρ ?_;refine Jjj (k+1) v3 sO ⟨lk,Jjk (hx1.trans hx2) hg3 (Jwd (Jjc ho hx2)),?_⟩ (by omega);rw [Jwt,if_pos h];exact ho3
  ·refine ρ ?_;refine Jjj (k+1) vo sO ⟨lk,hx1,?_⟩ (by omega);rw [Jwt,if_neg (by rw [h];simp),List.append_nil];exact ho
 ·have hk':k=32:=by have:=of_decide_eq_false h;omega
  rw [hk']at ho;have hcl:=Jvg s 32;obtain ⟨A3,c3,rfl,hc3,_⟩:=Jjd ho;refine ρ ?_;exact Jjq ⟨⟨A3,c3,by rw [Jqc],by rw [Jqc];exact hc3,by rw [Jqc];omega,by rw [Jqc];exact Rd.own ho⟩,hx1⟩
open Go.RowKit Pl Go.Wk
structure RInM(w:World)(VA RA:Option Addr)(m:Nat)(vars:Nat->List Nat)(rs:Nat->List Row): Prop where
 v:∃ cs,Rd w 1 VA m cs/\∀ i,i<m->∃ u,cs[i]?=some u/\IntsV w u (nz (vars i))
 r:∃ cs,Rd w 1 RA m cs/\∀ i,i<m->∃ u,cs[i]?=some u/\RowsV w u (rs i)
theorem RInM.ext{w w':World}{VA RA:Option Addr}{m:Nat}{vars:Nat->List Nat}{rs:Nat->List Row}(h:RInM w VA RA m vars rs)(hx:Ext w w'): RInM w' VA RA m vars rs:=by
 obtain ⟨cs,h1,h2⟩:=h.v;obtain ⟨ds,h3,h4⟩:=h.r;exact ⟨⟨cs,h1.ext hx,λi hi=>by obtain ⟨u,e,hu⟩:=h2 i hi;exact ⟨u,e,hu.ext hx⟩⟩,⟨ds,h3.ext hx,λi hi=>by obtain ⟨u,e,hu⟩:=h4 i hi;exact ⟨u,e,hu.ext hx⟩⟩⟩
structure RefP(n m:Nat)(vars:Nat->List Nat)(rs:Nat->List Row): Prop where
 n32:n<=32
 m32:m<=32
 asc:∀ i,i<m->Jcn (vars i)
 lt:∀ i,i<m->∀ v∈vars i,v<n
 len:∀ i,i<m->∀ r∈rs i,r.length=(vars i).length
 cov:∀ v,v<n->∃ i,i<m/\v∈vars i
 cnt:max 1 (Jjz m λi=>(rs i).length)<=5000
 row:∀ i,i<m->(rs i).length<=10
def Qzk(n f:Int)(pA:Option Addr)(pn pc:Nat)(VA:Option Addr)(vc:Nat)(RA:Option Addr)(rc m:Nat): List Value:=[.int .i64 n,.int .i64 f,.slice pA pn pc,.slice VA m vc,.slice RA m rc]
def Xbq(vars:Nat->List Nat)(rs:Nat->List Row)(vl:List Nat)(r:Row)(i:Nat)(x:Row): Bool:=decide (pmR (Jqt (vars i) (Jqd vl &&& Jqd (vars i))) x=pmR (Jqt vl (Jqd vl &&& Jqd (vars i))) r)
section
variable {n f:Int} {pA VA RA:Option Addr} {pn pc vc rc N m:Nat} {vars:Nat->List Nat} {rs:Nat->List Row} {w:World}
theorem Qqf(hP:RefP N m vars rs)(hM:RInM w VA RA m vars rs){vl:List Nat}{r:Row}{vv rv:Value}(hv:IntsV w vv (nz vl))(hr:RowV w rv r)(hvl:∀ u∈vl,u<32)(hrl:r.length=vl.length):
  Ret Tryz.prog 162 [.agg (Qzk n f pA pn pc VA vc RA rc m).toArray,rv,vv] w λu w'=>u=.bool (Qfs m vars rs vl r)/\Ext w w':=by
 have m32:=hP.m32;refine Jjb Tryz.func162 Tryz.ntmps162 rfl (by kernel_rfl) rfl ?_;refine ρ ?_;refine bx (cs:=Qzk n f pA pn pc VA vc RA rc m) ?_;intro w1 b hx1 hb hB;refine ρ ?_;refine cl (Qvv (hv.ext hx1) hvl) ?_;rintro _ w1' ⟨rfl,e1⟩;rw [e1];clear e1 w1';refine ρ ?_;refine Jqn (fun (i:Nat)=>[(1,rv),(2,vv),(3,.pointer (some ⟨b,0,none⟩)),(7,.int .u32 (Jqd vl:Int)),(8,.int .i64 (i:Int))])
  (λi w'=>i<=m/\Ext w1 w'/\(List.range i).all (λi=>(rs i).any (Xbq vars rs vl r i))=true) (λi=>m-i) 0 sB ⟨Nat.zero_le _,Ext.refl _,rfl⟩ ?_
 rintro i w2 ⟨hi,hx2,hall⟩;have hB2:=hB.ext hx2;refine ρ ?_;refine ld (hB2.at (i:=3) rfl) ?_;refine ρ ?_;refine ci (λh=>?_) (λh=>?_)
 ·have li:i<m:=by have:=of_decide_eq_true h;omega
  clear h;obtain ⟨vcs,hvR,hve⟩:=(hM.ext (hx1.trans hx2)).v;obtain ⟨rcs,hrR,hre⟩:=(hM.ext (hx1.trans hx2)).r;obtain ⟨vi,hvi,hVi⟩:=hve i li;obtain ⟨ri,hri,hRi⟩:=hre i li;have hvi32:∀ u∈vars i,u<32:=λu hu=>by have:=hP.lt i li u hu;have:=hP.n32;omega
  refine ρ ?_;refine ld (hB2.at (i:=3) rfl) ?_;refine ρ ?_;refine ix i hvR li ?_;refine ρ ?_;refine ld (hvR.cell hvi) ?_;refine ρ ?_;refine cl (Qvv hVi hvi32) ?_;rintro _ w2' ⟨rfl,e2⟩;rw [e2];clear e2 w2';have he1:Jqd vl<4294967296:=Jvr (n:=32) hvl;have he2:Jqd (vars i)<4294967296:=Jvr (n:=32) hvi32;refine ρ ?_;have hand:bits .and .u32 (Jqd vl:Int) (Jqd (vars i):Int)=((Jqd vl &&& Jqd (vars i):Nat):Int):=u32_and_nat _ _ he1 he2;have he3:Jqd vl &&& Jqd (vars i)<4294967296:=Nat.lt_of_le_of_lt Nat.and_le_left he1;rw [hand];clear hand;refine cl (Jgr (hr.ext (hx1.trans hx2)) (hv.ext (hx1.trans hx2)) he3 hvl hrl) ?_;rintro wv w3 ⟨hwv,hx3⟩;refine ρ ?_;refine Jjv (fun (k:Nat) (bb:Bool)=>[(1,rv),(2,vv),(3,.pointer (some ⟨b,0,none⟩)),(7,.int .u32 (Jqd vl:Int)),(8,.int .i64 (i:Int)),(9,.int .u32 ((Jqd vl &&& Jqd (vars i):Nat):Int)),(10,wv),(11,.bool bb),(12,.int .i64 (k:Int))])
   (λk bb w'=>k<=(rs i).length/\Ext w3 w'/\bb=((rs i).take k).any (Xbq vars rs vl r i)) (λk _=>(rs i).length-k) 0 false sB ⟨Nat.zero_le _,Ext.refl _,rfl⟩ ?_
  rintro k bb w4 ⟨hk,hx4,hbb⟩;have hx24:=hx3.trans hx4;have hB4:=hB2.ext hx24;obtain ⟨TA,tc,rfl,htc,htm,tcs,hTR,hTe⟩:=(hRi.ext hx24).parts;refine ρ ?_;refine ld (hB4.at (i:=4) rfl) ?_;refine ρ ?_;refine ix i (hrR.ext hx24) li ?_;refine ρ ?_;refine ld ((hrR.ext hx24).cell hri) ?_;refine ρ ?_;have next:(rs i).any (Xbq vars rs vl r i)=true->(List.range (i+1)).all (λi=>(rs i).any (Xbq vars rs vl r i))=true:=λh=>by
   rw [List.range_succ,List.all_append,hall];simp [h]
  refine ki 42 (λh=>?_) (λh=>?_)
  ·have lk:k<(rs i).length:=by have:=of_decide_eq_true h;omega
   clear h;refine ρ ?_;refine ci (λh=>?_) (λh=>?_)
   ·have hb0:bb=false:=by cases bb<;>first|rfl|cases h
    subst hb0;obtain ⟨xv,hxc,hxV⟩:=hTe k lk;have hxl:=hP.len i li _ (getD_mem' [] (rs i) lk);have hxd:Ext w4 w4.drew:=(Ext.refl w4).drew;have hx2d:=hx24.trans hxd;refine ρ ?_;refine dr [(0,0),(0,1),(0,2),(0,3),(0,4),(0,5),(0,6),(0,7),(0,8),(0,9),(0,10),(0,11),(0,12),(0,13),(0,15),(1,14),(1,16),(0,17)] (by kernel_rfl) ?_;have hRR:=(hrR.ext hx2d);refine ρd ?_;refine dld ((hB4.ext hxd).at (i:=4) rfl) ?_;refine ρd ?_;refine dix i hRR li ?_;refine ρd ?_;refine dld (hRR.cell hri) ?_;refine ρd ?_;refine dix k (hTR.ext hxd) lk ?_;refine ρd ?_;refine dld ((hTR.ext hxd).cell hxc) ?_;refine ρd ?_;refine dld ((hB4.ext hxd).at (i:=3) rfl) ?_;refine ρd ?_;refine dix i (hvR.ext hx2d) li ?_;refine ρd ?_;refine dld ((hvR.ext hx2d).cell hvi) ?_;refine ρd ?_;refine dcl (Jgr (hxV.ext hxd) (hVi.ext hx2d) he3 hvi32 hxl) ?_;rintro pv w5 ⟨hpv,hx5⟩;refine ⟨hx5,?_⟩;refine ρd ?_;refine dcl (Jbh hpv (hwv.ext ((hx4.trans hxd).trans hx5))) ?_
    rintro _ w6 ⟨rfl,hx6⟩;refine ⟨hx6,?_⟩;refine ρd ?_;refine ρ ?_;refine Jjj (k+1) (Xbq vars rs vl r i ((rs i).getD k [])) sO ⟨lk,((hx4.trans hxd).trans hx5).trans hx6,?_⟩ (by omega);rw [Jjm [] lk,List.any_append,<-hbb];simp
   ·have hb1:bb=true:=by cases bb<;>first|rfl|cases h
    subst hb1;refine ρ ?_;refine Jjt (i+1) sO ⟨li,hx2.trans hx24,next ?_⟩ (by omega);rw [<-List.take_append_drop k (rs i),List.any_append,<-hbb];rfl
  ·have lk:k=(rs i).length:=by have:=of_decide_eq_false h;omega
   clear h;rw [lk,List.take_length]at hbb;refine ρ ?_;refine ci (λh=>?_) (λh=>?_)
   ·have hb0:bb=false:=by cases bb<;>first|rfl|cases h
    refine ρ ?_;refine Jjq ⟨?_,(hx1.trans hx2).trans hx24⟩;congr 1
    symm
    refine Bool.eq_false_iff.2 λhc=>?_;have:=List.all_eq_true.1 hc i (List.mem_range.2 li);rw [hb0]at hbb;exact Bool.false_ne_true (hbb.trans this)
   ·have hb1:bb=true:=by cases bb<;>first|rfl|cases h
    refine ρ ?_;exact Jjt (i+1) sO ⟨li,hx2.trans hx24,next (by rw [<-hbb];exact hb1)⟩ (by omega)
 ·have hi':i=m:=by have:=of_decide_eq_false h;omega
  subst hi';refine ρ ?_;exact Jjq ⟨congrArg Value.bool hall.symm,hx1.trans hx2⟩
end
open Go.RowKit Pl Go.Wk
theorem EVv: ElT Tryz.prog 39 71 3 32 (.agg #[.int .i64 0,.int .i64 0,.string ⟨#[]⟩]):=⟨Tryz.underlying39,info_parts (by kernel_rfl),rfl,by decide⟩
theorem Xcm(v:V)(w:World): (Instr.buildSlice 39 1 #[(0,v.val)]).run Tryz.prog w=.ok (.slice (some ⟨w.heap.size,0,none⟩) 1 1) (w.alloc (.cells v.cells.toArray 71)):=by kernel_rfl
theorem Blk.rowV{w:World}{b t:Nat}{v:V}(h:Blk w b t v.cells): RowV w (.slice (some ⟨b,0,none⟩) 1 1) [v]:=⟨some ⟨b,0,none⟩,1,rfl,Nat.le_refl _,by simp,by
 have:=h.rd (n:=1) (sz:=3) rfl;unfold RdR;rw [rowC_one''];exact this⟩
def enI(vars:Nat->List Nat)(rs:Nat->List Row)(v i:Nat): List Row:=(List.range (vars i).length).flatMap λk=>if (vars i).getD k 0=v then (rs i).map λr=>[r.getD k V0] else []
def enD(vars:Nat->List Nat)(rs:Nat->List Row)(v i k:Nat): List Row:=(List.range i).flatMap (enI vars rs v)++(List.range k).flatMap λk=>if (vars i).getD k 0=v then (rs i).map λr=>[r.getD k V0] else []
def Qvz(D:List Row): List Row:=D.foldl (Jpv []) []
theorem Qrf(D:List Row): Jvh [] D (Qvz D):=by
 have:=Jyx (ds:=[]) D (done:=[]) (l:=[]) ⟨List.Pairwise.nil,λx=>Iff.rfl⟩;rwa [List.nil_append]at this
theorem Qqh(D:List Row)(r:Row): Qvz (D++[r])=Jpv [] (Qvz D) r:=by simp [Qvz]
theorem Qrg(D:List Row)(r:Row): (Qvz (D++[r])).length<=(Qvz D).length+1:=by
 rw [Qqh];unfold Jpv;split
 ·omega
 ·have:=Qmx [] (Qvz D) r;simp;omega
section
variable {n f:Int} {pA VA RA:Option Addr} {pn pc vc rc N m:Nat} {vars:Nat->List Nat} {rs:Nat->List Row} {w:World}
theorem Qkj(hP:RefP N m vars rs)(hM:RInM w VA RA m vars rs)(v:Nat):
  Ret Tryz.prog 161 [.agg (Qzk n f pA pn pc VA vc RA rc m).toArray,.int .i64 (v:Int)] w λu w'=>(RowV w' u (Jdf m vars rs v)/\(Jdf m vars rs v).length<=10240)/\Ext w w':=by
 have m32:=hP.m32;refine Jjb Tryz.func161 Tryz.ntmps161 rfl (by kernel_rfl) rfl ?_;refine ρ ?_;refine bx (cs:=Qzk n f pA pn pc VA vc RA rc m) ?_;intro w1 b hx1 hb hB;refine ρ ?_;refine Jjv (fun (i:Nat) (lv:Value)=>[(1,.int .i64 (v:Int)),(2,.pointer (some ⟨b,0,none⟩)),(5,lv),(6,.int .i64 (i:Int))])
  (λi lv w'=>i<=m/\Ext w1 w'/\RowsV w' lv (Qvz ((List.range i).flatMap (enI vars rs v)))/\(Qvz ((List.range i).flatMap (enI vars rs v))).length<=320*i) (λi _=>m-i) 0 (.slice none 0 0) sB
  ⟨Nat.zero_le _,Ext.refl _,⟨[],none,0,rfl,rfl,Nat.le_refl _,Nat.zero_le _,Rd.nil,λp hp=>by cases hp⟩,Nat.le_refl _⟩ ?_
 rintro i lv w2 ⟨hi,hx2,hlv,hll⟩;have hB2:=hB.ext hx2;refine ρ ?_;refine ld (hB2.at (i:=3) rfl) ?_;refine ρ ?_;refine ci (λh=>?_) (λh=>?_)
 ·have li:i<m:=by have:=of_decide_eq_true h;omega
  clear h;have hvi32:∀ u∈vars i,u<32:=λu hu=>by have:=hP.lt i li u hu;have:=hP.n32;omega
  have hvl:=Jpc (hP.asc i li) hvi32;have hrow:=hP.row i li;refine ρ ?_;refine Jjv (fun (k:Nat) (lv:Value)=>[(1,.int .i64 (v:Int)),(2,.pointer (some ⟨b,0,none⟩)),(5,lv),(6,.int .i64 (i:Int)),(7,.int .i64 (k:Int))])
   (λk lv w'=>k<=(vars i).length/\Ext w2 w'/\RowsV w' lv (Qvz (enD vars rs v i k))/\(Qvz (enD vars rs v i k)).length<=320*i+10*k) (λk _=>(vars i).length-k) 0 lv sB
   ⟨Nat.zero_le _,Ext.refl _,by unfold enD;simpa using hlv,by unfold enD;simpa using hll⟩ ?_
  clear hlv hll lv;rintro k lv w3 ⟨hk,hx3,hlv,hll⟩;have hx13:=hx2.trans hx3;have hB3:=hB2.ext hx3;obtain ⟨vcs,hvR,hve⟩:=(hM.ext (hx1.trans hx13)).v;obtain ⟨vi,hvi,hVi⟩:=hve i li;obtain ⟨PA,pc',rfl,hpc,hpm,hPR⟩:=hVi.n;refine ρ ?_;refine ld (hB3.at (i:=3) rfl) ?_;refine ρ ?_;refine ix i hvR li ?_;refine ρ ?_;refine ld (hvR.cell hvi) ?_;refine ρ ?_;refine ci (λh=>?_) (λh=>?_)
  ·have lk:k<(vars i).length:=by have:=of_decide_eq_true h;omega
   clear h;refine ρ ?_;refine ld (hB3.at (i:=3) rfl) ?_;refine ρ ?_;refine ix i hvR li ?_;refine ρ ?_;refine ld (hvR.cell hvi) ?_;refine ρ ?_;refine ix k hPR lk ?_;refine ρ ?_;refine ld (hPR.cell (Jxw lk)) ?_;refine ρ ?_;have enS:∀ D,enD vars rs v i (k+1)=D->D=enD vars rs v i k++(if (vars i).getD k 0=v then (rs i).map λr=>[r.getD k V0] else []):=λD hD=>by
    rw [<-hD];unfold enD;rw [List.range_succ,List.flatMap_append,List.append_assoc];simp
   have enS:=enS _ rfl;refine ci (λh=>?_) (λh=>?_)
   ·have hne:(vars i).getD k 0≠v:=λe=>by have:=Jkp h;omega
    rw [if_neg hne,List.append_nil]at enS;refine ρ ?_;refine Jjj (k+1) lv sO ⟨lk,hx3,by rw [enS];exact hlv,by rw [enS];omega⟩ (by omega)
   ·have he:(vars i).getD k 0=v:=by have:=Jkq h;omega
    rw [if_pos he]at enS;clear h;refine ρ ?_;refine Jjv (fun (j:Nat) (lv:Value)=>[(1,.int .i64 (v:Int)),(2,.pointer (some ⟨b,0,none⟩)),(5,lv),(6,.int .i64 (i:Int)),(7,.int .i64 (k:Int)),(8,.int .i64 (j:Int))])
     (λj lv w'=>j<=(rs i).length/\Ext w3 w'/\RowsV w' lv (Qvz (enD vars rs v i k++((rs i).take j).map λr=>[r.getD k V0]))/\(Qvz (enD vars rs v i k++((rs i).take j).map λr=>[r.getD k V0])).length<=320*i+10*k+j) (λj _=>(rs i).length-j) 0 lv sB
     ⟨Nat.zero_le _,Ext.refl _,by simpa using hlv,by simpa using hll⟩ ?_
    clear hlv hll lv;rintro j lv w4 ⟨hj,hx4,hlv,hll⟩;have hx14:=hx13.trans hx4;have hB4:=hB3.ext hx4;obtain ⟨rcs,hrR,hre⟩:=(hM.ext (hx1.trans hx14)).r;obtain ⟨ri,hri,hRi⟩:=hre i li;obtain ⟨TA,tc,rfl,htc,htm,tcs,hTR,hTe⟩:=hRi.parts;refine ρ ?_;refine ld (hB4.at (i:=4) rfl) ?_;refine ρ ?_;refine ix i hrR li ?_;refine ρ ?_;refine ld (hrR.cell hri) ?_;refine ρ ?_;refine ci (λh=>?_) (λh=>?_)
    ·have lj:j<(rs i).length:=by have:=of_decide_eq_true h;omega
     clear h;obtain ⟨xv,hxc,hxV⟩:=hTe j lj;have hxl:=hP.len i li _ (getD_mem' [] (rs i) lj);obtain ⟨XA,xc,rfl,hxc1,hxc2,hXR⟩:=id hxV;refine ρ ?_;refine ld (hB4.at (i:=4) rfl) ?_;refine ρ ?_;refine ix i hrR li ?_;refine ρ ?_;refine ld (hrR.cell hri) ?_;refine ρ ?_;refine ix j hTR lj ?_;refine ρ ?_;refine ld (hTR.cell hxc) ?_;refine ρ ?_;refine ixq 3 k hXR (by omega) ?_;refine ρ ?_;refine lds (cs:=(((rs i).getD j []).getD k V0).cells) (λq u hu=>RdR.cell hXR (by omega) hu) ?_;refine ρ ?_;refine bsl (Qwp _) ?_;intro w5 b5 hx5 hb5 hB5;refine ρ ?_;refine cl (Jps (hlv.ext hx5) (Blk.rowV hB5) (BoolsV.nil _ none 0) (Qrf _).1 (by omega)) ?_;rintro lv6 w6 ⟨hl6,hx6,_⟩;have e:enD vars rs v i k++((rs i).take (j+1)).map (λr=>[r.getD k V0])=(enD vars rs v i k++((rs i).take j).map λr=>[r.getD k V0])++[[((rs i).getD j []).getD k V0]]:=by
      rw [Jjm [] lj,List.map_append,List.append_assoc];rfl
     have hpl:=Qrg (enD vars rs v i k++((rs i).take j).map λr=>[r.getD k V0]) [((rs i).getD j []).getD k V0];refine ρ ?_;refine Jjj (j+1) lv6 sO ⟨lj,(hx4.trans hx5).trans hx6,by rw [e,Qqh];exact hl6,by rw [e];omega⟩ (by omega)
    ·have hj':j=(rs i).length:=by have:=of_decide_eq_false h;omega
     subst hj';clear h;rw [List.take_length,<-enS]at hlv hll;refine ρ ?_;exact Jjj (k+1) lv sO ⟨lk,hx3.trans hx4,hlv,by omega⟩ (by omega)
  ·have hk':k=(vars i).length:=by have:=of_decide_eq_false h;omega
   subst hk';clear h;have e:(List.range (i+1)).flatMap (enI vars rs v)=enD vars rs v i (vars i).length:=by
    unfold enD;rw [List.range_succ,List.flatMap_append];simp [enI]
   refine ρ ?_;refine Jjj (i+1) lv sO ⟨li,hx13,by rw [e];exact hlv,by rw [e];omega⟩ (by omega)
 ·have hi':i=m:=by have:=of_decide_eq_false h;omega
  subst hi';clear h;have eR:Qvz ((List.range i).flatMap (enI vars rs v))=Qgm i vars rs v:=rfl;rw [eR]at hlv hll;obtain ⟨TA,tc,rfl,htc,htm,tcs,hTR,hTe⟩:=hlv.parts;refine ρ ?_;refine Jjv (fun (k:Nat) (vo:Value)=>[(5,.slice TA (Qgm i vars rs v).length tc),(9,vo),(10,.int .i64 (k:Int))])
   (λk vo w'=>k<=(Qgm i vars rs v).length/\Ext w2 w'/\Qjd w' w2.heap.size vo ((Jdf i vars rs v).take k)) (λk _=>(Qgm i vars rs v).length-k) 0 (.slice none 0 0) sB
   ⟨Nat.zero_le _,Ext.refl _,Jxj _ _ _ _⟩ ?_
  have hvl:(Jdf i vars rs v).length=(Qgm i vars rs v).length:=by simp [Jdf]
  rintro k vo w3 ⟨hk,hx3,ho⟩;refine ρ ?_;refine ci (λh=>?_) (λh=>?_)
  ·have lk:k<(Qgm i vars rs v).length:=by have:=of_decide_eq_true h;omega
   clear h;obtain ⟨xv,hxc,hxV⟩:=hTe k lk;obtain ⟨x,hx⟩:=Jrx (getD_mem' [] _ lk);rw [hx]at hxV;obtain ⟨XA,xc,rfl,hxc1,hxc2,hXR⟩:=id (hxV.ext hx3);refine ρ ?_;refine ix k (hTR.ext hx3) lk ?_;refine ρ ?_;refine ld ((hTR.ext hx3).cell hxc) ?_;refine ρ ?_;refine ixq 3 0 hXR (by simp) ?_;refine ρ ?_;refine lds (cs:=x.cells) (λq u hu=>RdR.cell (r:=[x]) hXR (i:=0) (by simp) hu) ?_;refine ρ ?_;refine bsl (Xcm x) ?_;intro w4 b4 hx4 hb4 hB4;have hln:((Jdf i vars rs v).take k).length=k:=by rw [List.length_take];omega
   refine ρ ?_;refine apb (m':=1) (news:=x.cells) EVv (Jjc ho hx4) (hB4.rd (n:=1) rfl) (V.one _) (by unfold maxLen;omega) (by omega) (hx3.trans hx4).size ?_;intro v5 w5 ho5 hg5 hn5;have e:(Jdf i vars rs v).take (k+1)=(Jdf i vars rs v).take k++[x]:=by
    rw [Jjm V0 (by omega)];congr 2
    have:(Jdf i vars rs v).getD k V0=((Qgm i vars rs v).getD k []).getD 0 V0:=by
     unfold Jdf;simp only [List.getD,List.getElem?_map,List.getElem?_eq_getElem lk,Option.map_some,Option.getD_some]
    rw [this,hx];rfl
   refine ρ ?_;refine Jjj (k+1) v5 sO ⟨lk,Jjk (hx3.trans hx4) hg5 (Jwd (Jjc ho hx4)),?_⟩ (by omega);rw [Qjd,e,List.length_append,rowC_app',rowC_one''];exact ho5
  ·have hk':k=(Qgm i vars rs v).length:=by have:=of_decide_eq_false h;omega
   rw [hk',<-hvl,List.take_length]at ho;obtain ⟨A3,c3,rfl,hc3,_⟩:=Jjd ho;refine ρ ?_;exact Jjq ⟨⟨⟨A3,c3,rfl,hc3,by omega,Rd.own ho⟩,by omega⟩,(hx1.trans hx2).trans hx3⟩
end
end Go.Proofs.YtefpailelagbkaaGreatDoor
