/- Part 41. -/
import Derived.Test.YtebcagekopgdhaaGreatDoorB40
set_option linter.unusedVariables false
set_option maxRecDepth 100000
set_option maxHeartbeats 40000000
namespace Go.Wk
open Go.RowKit
section
variable {P:Program} {n:Nat} {al:AL} {w:World} {Q:Exit->Act->World->Prop} {ops:Array Oper} {rest:List Oper} {d ty:Nat} {pos:String} {aft:Array Edge}
theorem sr32g{x y:Operand}{t yt:TypeId}{k2:IntKind}{s v:Nat}(hv:v<=32)(kk:WL P n ops Q rest ((d,.int .u32 ((s / 2^v:Nat):Int))::al) w)(hx:ev al x=some (.int .u32 (s:Int)):=by rfl)(hy:ev al y=some (.int k2 (v:Int)):=by rfl)(hd:Nat.blt d n=true:=by rfl):
  WL P n ops Q (⟨some d,.binOp .shr t x y yt,ty,pos,aft,none⟩::rest) al w:=by
 rw [<-Jmh s v hv]at kk;exact wop hd (λa o=>Jmp hx hy om o (some d) w) kk
theorem Jmb{y:Operand}{t yt:TypeId}{k2:IntKind}{v:Nat}(hv:v<32)(kk:WL P n ops Q rest ((d,.int .u32 ((2^v:Nat):Int))::al) w)(hy:ev al y=some (.int k2 (v:Int)):=by rfl)(hd:Nat.blt d n=true:=by rfl):
  WL P n ops Q (⟨some d,.binOp .shl t (.const (.int .u32 1)) y yt,ty,pos,aft,none⟩::rest) al w:=by
 rw [<-Jwc hv]at kk;exact wop hd (λa o=>Jxw (x:=.const (.int .u32 1)) rfl hy om o (some d) w) kk
end
end Go.Wk
namespace Go.Proofs.YtebcagekopgdhaaGreatDoor
open Go.RowKit Pl Go.Wk
attribute [local irreducible] WC WL QX WD WDB WP WN WG WH
theorem IntsV.n{w:World}{v:Value}{l:List Nat}(h:IntsV w v (nz l)): ∃ A c,v=.slice A l.length c/\l.length<=c/\l.length<=1100000/\Rd w 1 A l.length (Js (nz l)):=by
 obtain ⟨A,c,G,C,u,o⟩:=h;rw [Qq]at G C u o;exact ⟨A,c,G,C,u,o⟩
theorem Jnq{s v:Nat}(hs:s<4294967296)(hv:v<=32)(w:World): Ret Tryz.prog 194 [.int .u32 (s:Int),.int .i64 (v:Int)] w λu w'=>u=.bool (s.testBit v)/\w'=w:=by
 refine Jz Tryz.func194 Tryz.ntmps194 rfl kr rfl ?_;refine ρ ?_;refine Go.Wk.kv 7 (congrArg (λz=>Value.int .u64 z) (Gz (z:=(v:Int)) om)) ?_;refine sr32g (s:=s) (v:=v) hv ?_;refine ρ ?_;rw [Ub hs];exact Jj ⟨rfl,rfl⟩
theorem Jnn{l:List Nat}{v:Value}{w:World}(h:IntsV w v (nz l))(hl:∀ u∈l,u<32): Ret Tryz.prog 195 [v] w λu w'=>u=.int .u32 (Qz l:Int)/\w'=w:=by
 obtain ⟨A,c,rfl,hc,hm,J⟩:=h.n;refine Jz Tryz.func195 Tryz.ntmps195 rfl kr rfl ?_;refine ρ ?_;refine Qd (fun (i:Nat)=>[(0,.slice A l.length c),(3,.int .u32 (Qz (l.take i):Int)),(4,.int .i64 (i:Int))])
  (λi w'=>i<=l.length/\w'=w) (λi=>l.length-i) 0 sB ⟨Nat.zero_le _,rfl⟩ ?_
 rintro i w1 ⟨hi,rfl⟩;refine ρ ?_;refine ci (λh=>?_) (λh=>?_)
 .have C:i<l.length:=by have:=oT h;omega
  clear h;have o:=hl _ (getD_mem' 0 l C);refine ρ ?_;refine ix i J C ?_;refine ρ ?_;refine ld (J.cell (Xh C)) ?_;refine ρ ?_;refine Go.Wk.kv 16 (congrArg (λz=>Value.int .u64 z) (Gz (z:=(l.getD i 0:Int)) om)) ?_;refine Jmb (v:=l.getD i 0) o ?_;refine ρ ?_;have e:Qz (l.take (i+1))=Qz (l.take i) ||| 2^l.getD i 0:=by rw [Qy 0 C];exact Jth _ _ _
  have Z:Qz (l.take i)<4294967296:=Jqx (n:=32) λv O=>hl v (List.mem_of_mem_take O);have U:=Ie Z (Gc o);rw [U,<-e];exact Qw (i+1) sO ⟨C,rfl⟩ om
 .have G:i=l.length:=by have:=oF h;omega
  subst G;clear h;refine ρ ?_;rw [List.take_length];exact Jj ⟨rfl,rfl⟩
theorem Jnp{vars:List Nat}{s:Nat}{r:Row}{rv vv:Value}{w:World}(hr:RowV w rv r)(hv:IntsV w vv (nz vars))(hs:s<4294967296)(hl:∀ u∈vars,u<32)(hrl:r.length=vars.length):
  Ret Tryz.prog 196 [rv,vv,.int .u32 (s:Int)] w λu w'=>RowV w' u (pmR (Qg vars s) r)/\Ext w w':=by
 obtain ⟨A,c,rfl,hc,hm,hR⟩:=id hr;obtain ⟨B,d,rfl,hd,aa,hV⟩:=hv.n;refine Jz Tryz.func196 Tryz.ntmps196 rfl kr rfl ?_;refine ρ ?_;refine bsl Ir ?_;intro w0 b0 a1 a7 a8;refine ρ ?_;refine Jt (fun (k:Nat) (J:Value)=>[(0,.slice A r.length c),(1,.slice B vars.length d),(2,.int .u32 (s:Int)),(7,J),(8,.int .i64 (k:Int))])
  (λk J w'=>k<=vars.length/\Ext w w'/\Zm w' w.heap.size J (pmR (Xl vars s k) r)) (λk _=>vars.length-k) 0 (.slice (some ⟨b0,0,none⟩) 0 0) sB
  ⟨Nat.zero_le _,a1,a8.own (n:=0) a7 rfl (Nat.zero_le _)⟩ ?_
 rintro k J w1 ⟨hk,o,G⟩;refine ρ ?_;refine ci (λh=>?_) (λh=>?_)
 .have lk:k<vars.length:=by have:=oT h;omega
  clear h;have U:RdR w1 A r:=Rd.ext hR o;have O:=hl _ (getD_mem' 0 vars lk);have a5:(Xl vars s k).length<=k:=by
   have:=List.length_filter_le (λi=>s.testBit (vars.getD i 0)) (List.range k);rw [List.length_range]at this;exact this
  refine ρ ?_;refine ix k (hV.ext o) lk ?_;refine ρ ?_;refine ld ((hV.ext o).cell (Xh lk)) ?_;refine ρ ?_;refine cl (Jnq hs (Nat.le_of_lt O) w1) ?_;rintro _ Z ⟨rfl,e1⟩;rw [e1];clear e1 Z;refine ρ ?_;refine ci (λh=>?_) (λh=>?_)
  .refine ρ ?_;refine ixq 3 k U om ?_;refine ρ ?_;refine lds (cs:=(r.getD k V0).cells) (λj u hu=>RdR.cell U om hu) ?_;refine ρ ?_;refine bsl (Jfn _) ?_;intro w2 b C hb hB;refine ρ ?_;refine apb (m':=1) (news:=(r.getD k V0).cells) EV (Jk G C) (hB.rd (n:=1) rfl) (V.one _) (by rw [Qh];unfold maxLen;omega) (by rw [Qh];omega) (o.trans C).size ?_;intro v3 w3 a2 a4 a9;refine ρ ?_;refine Jg (k+1) v3 sO ⟨lk,Qv (o.trans C) a4 (Gd (Jk G C)),?_⟩ om;have e:pmR (Xl vars s (k+1)) r=pmR (Xl vars s k) r++[r.getD k V0]:=by rw [Gt,if_pos h];simp [pmR]
   rw [Zm,e,List.length_append,rowC_app',rowC_one''];exact a2
  .refine ρ ?_;refine Jg (k+1) J sO ⟨lk,o,?_⟩ om;rw [Gt,if_neg (by rw [h];simp),List.append_nil];exact G
 .have a3:k=vars.length:=by have:=oF h;omega
  rw [a3]at G;have a5:(Xl vars s vars.length).length<=vars.length:=by
   have:=List.length_filter_le (λi=>s.testBit (vars.getD i 0)) (List.range vars.length);rw [List.length_range]at this;exact this
  obtain ⟨A3,c3,rfl,a6,_⟩:=Jv G;refine ρ ?_;refine Jj ⟨⟨A3,c3,rfl,a6,?_,Rd.own G⟩,o⟩;show (pmR (Xl vars s vars.length) r).length<=_;rw [Qh];omega
theorem Qyt{s:Nat}(hs:s<4294967296)(w:World): Ret Tryz.prog 173 [.int .u32 (s:Int)] w λu w'=>IntsV w' u (nz (bk s 32))/\Ext w w':=by
 refine Jz Tryz.func173 Tryz.ntmps173 rfl kr rfl ?_;refine ρ ?_;refine Jt (fun (k:Nat) (J:Value)=>[(0,.int .u32 (s:Int)),(3,J),(4,.int .i64 (k:Int))])
  (λk J w'=>k<=32/\Ext w w'/\Xt w' w.heap.size J (bk s k)) (λk _=>32-k) 0 (.slice none 0 0) sB
  ⟨Nat.zero_le _,Ext.refl _,Xs _ _ _ _⟩ ?_
 rintro k J w1 ⟨hk,C,G⟩;refine ρ ?_;refine ci (λh=>?_) (λh=>?_)
 .have lk:k<32:=by have:=oT h;omega
  clear h;have a2:=Vu s k;refine ρ ?_;refine cl (Jnq hs hk w1) ?_;rintro _ O ⟨rfl,e1⟩;rw [e1];clear e1 O;refine ρ ?_;refine ci (λh=>?_) (λh=>?_)
  .refine ρ ?_;refine bsl (bs1Int'' _) ?_;intro w2 b o hb hB;refine ρ ?_;refine apI (Jk G o) hB om (C.trans o).size ?_;intro v3 w3 U a1 a4;refine ρ ?_;refine Jg (k+1) v3 sO ⟨lk,Qv (C.trans o) a1 (Gd (Jk G o)),?_⟩ om;rw [Uy,if_pos h];exact U
  .refine ρ ?_;refine Jg (k+1) J sO ⟨lk,C,?_⟩ om;rw [Uy,if_neg (by rw [h];simp),List.append_nil];exact G
 .have Z:k=32:=by have:=oF h;omega
  rw [Z]at G;have a2:=Vu s 32;obtain ⟨A3,c3,rfl,a3,_⟩:=Jv G;refine ρ ?_;exact Jj ⟨⟨A3,c3,by rw [Qq],by rw [Qq];exact a3,by rw [Qq];omega,by rw [Qq];exact Rd.own G⟩,C⟩
open Go.RowKit Pl Go.Wk
structure RInM(w:World)(VA RA:Option Addr)(m:Nat)(vars:Nat->List Nat)(rs:Nat->List Row): Prop where
 v:∃ cs,Rd w 1 VA m cs/\∀ i,i<m->∃ u,cs[i]?=some u/\IntsV w u (nz (vars i))
 r:∃ cs,Rd w 1 RA m cs/\∀ i,i<m->∃ u,cs[i]?=some u/\RowsV w u (rs i)
theorem RInM.ext{w w':World}{VA RA:Option Addr}{m:Nat}{vars:Nat->List Nat}{rs:Nat->List Row}(h:RInM w VA RA m vars rs)(hx:Ext w w'): RInM w' VA RA m vars rs:=by
 obtain ⟨cs,O,J⟩:=h.v;obtain ⟨ds,G,C⟩:=h.r;exact ⟨⟨cs,O.ext hx,λi hi=>by obtain ⟨u,e,o⟩:=J i hi;exact ⟨u,e,o.ext hx⟩⟩,⟨ds,G.ext hx,λi hi=>by obtain ⟨u,e,o⟩:=C i hi;exact ⟨u,e,o.ext hx⟩⟩⟩
structure RefP(n m:Nat)(vars:Nat->List Nat)(rs:Nat->List Row): Prop where
 n32:n<=32
 m32:m<=32
 asc:∀ i,i<m->Qo (vars i)
 lt:∀ i,i<m->∀ v∈vars i,v<n
 len:∀ i,i<m->∀ r∈rs i,r.length=(vars i).length
 cov:∀ v,v<n->∃ i,i<m/\v∈vars i
 cnt:max 1 (Jc m λi=>(rs i).length)<=5000
 row:∀ i,i<m->(rs i).length<=10
def Vv(n f:Int)(pA:Option Addr)(pn pc:Nat)(VA:Option Addr)(vc:Nat)(RA:Option Addr)(rc m:Nat): List Value:=[.int .i64 n,.int .i64 f,.slice pA pn pc,.slice VA m vc,.slice RA m rc]
def Jzs(vars:Nat->List Nat)(rs:Nat->List Row)(vl:List Nat)(r:Row)(i:Nat)(x:Row): Bool:=decide (pmR (Qg (vars i) (Qz vl &&& Qz (vars i))) x=pmR (Qg vl (Qz vl &&& Qz (vars i))) r)
section
variable {n f:Int} {pA VA RA:Option Addr} {pn pc vc rc N m:Nat} {vars:Nat->List Nat} {rs:Nat->List Row} {w:World}
theorem Jnr(hP:RefP N m vars rs)(hM:RInM w VA RA m vars rs){vl:List Nat}{r:Row}{vv rv:Value}(hv:IntsV w vv (nz vl))(hr:RowV w rv r)(hvl:∀ u∈vl,u<32)(hrl:r.length=vl.length):
  Ret Tryz.prog 175 [.agg (Vv n f pA pn pc VA vc RA rc m).toArray,rv,vv] w λu w'=>u=.bool (Yg m vars rs vl r)/\Ext w w':=by
 have b5:=hP.m32;refine Jz Tryz.func175 Tryz.ntmps175 rfl kr rfl ?_;refine ρ ?_;refine bx (cs:=Vv n f pA pn pc VA vc RA rc m) ?_;intro w1 b J hb hB;refine ρ ?_;refine cl (Jnn (hv.ext J) hvl) ?_;rintro _ ak ⟨rfl,e1⟩;rw [e1];clear e1 ak;refine ρ ?_;refine Qd (fun (i:Nat)=>[(1,rv),(2,vv),(3,.pointer (some ⟨b,0,none⟩)),(7,.int .u32 (Qz vl:Int)),(8,.int .i64 (i:Int))])
  (λi w'=>i<=m/\Ext w1 w'/\(List.range i).all (λi=>(rs i).any (Jzs vars rs vl r i))=true) (λi=>m-i) 0 sB ⟨Nat.zero_le _,Ext.refl _,rfl⟩ ?_
 rintro i w2 ⟨hi,C,a3⟩;have aa:=hB.ext C;refine ρ ?_;refine ld (aa.at (i:=3) rfl) ?_;refine ρ ?_;refine ci (λh=>?_) (λh=>?_)
 .have li:i<m:=by have:=oT h;omega
  clear h;obtain ⟨b2,a1,ar⟩:=(hM.ext (J.trans C)).v;obtain ⟨b4,a6,au⟩:=(hM.ext (J.trans C)).r;obtain ⟨vi,ac,ag⟩:=ar i li;obtain ⟨ri,ad,b1⟩:=au i li;have O:∀ u∈vars i,u<32:=λu hu=>by have:=hP.lt i li u hu;have:=hP.n32;omega
  refine ρ ?_;refine ld (aa.at (i:=3) rfl) ?_;refine ρ ?_;refine ix i a1 li ?_;refine ρ ?_;refine ld (a1.cell ac) ?_;refine ρ ?_;refine cl (Jnn ag O) ?_;rintro _ aj ⟨rfl,e2⟩;rw [e2];clear e2 aj;have af:Qz vl<4294967296:=Jqx (n:=32) hvl;have ax:Qz (vars i)<4294967296:=Jqx (n:=32) O;refine ρ ?_;have a2:bits .and .u32 (Qz vl:Int) (Qz (vars i):Int)=((Qz vl &&& Qz (vars i):Nat):Int):=u32_and_nat _ _ af ax;have ae:Qz vl &&& Qz (vars i)<4294967296:=Nat.lt_of_le_of_lt Nat.and_le_left af;rw [a2];clear a2;refine cl (Jnp (hr.ext (J.trans C)) (hv.ext (J.trans C)) ae hvl hrl) ?_;rintro wv w3 ⟨aq,ap⟩;refine ρ ?_;refine Jt (fun (k:Nat) (bb:Bool)=>[(1,rv),(2,vv),(3,.pointer (some ⟨b,0,none⟩)),(7,.int .u32 (Qz vl:Int)),(8,.int .i64 (i:Int)),(9,.int .u32 ((Qz vl &&& Qz (vars i):Nat):Int)),(10,wv),(11,.bool bb),(12,.int .i64 (k:Int))])
   (λk bb w'=>k<=(rs i).length/\Ext w3 w'/\bb=((rs i).take k).any (Jzs vars rs vl r i)) (λk _=>(rs i).length-k) 0 false sB ⟨Nat.zero_le _,Ext.refl _,rfl⟩ ?_
  rintro k bb w4 ⟨hk,a5,Z⟩;have o:=ap.trans a5;have a9:=aa.ext o;obtain ⟨TA,tc,rfl,b7,b6,b3,ah,ay⟩:=(b1.ext o).parts;refine ρ ?_;refine ld (a9.at (i:=4) rfl) ?_;refine ρ ?_;refine ix i (a6.ext o) li ?_;refine ρ ?_;refine ld ((a6.ext o).cell ad) ?_;refine ρ ?_;have next:(rs i).any (Jzs vars rs vl r i)=true->(List.range (i+1)).all (λi=>(rs i).any (Jzs vars rs vl r i))=true:=λh=>by
   rw [List.range_succ,List.all_append,a3];simp [h]
  refine ki 42 (λh=>?_) (λh=>?_)
  .have lk:k<(rs i).length:=by have:=oT h;omega
   clear h;refine ρ ?_;refine ci (λh=>?_) (λh=>?_)
   .have a8:bb=false:=by cases bb<;>first|rfl|cases h
    subst a8;obtain ⟨xv,an,ao⟩:=ay k lk;have am:=hP.len i li _ (getD_mem' [] (rs i) lk);have G:Ext w4 w4.drew:=(Ext.refl w4).drew;have U:=o.trans G;refine ρ ?_;refine dr [(0,0),(0,1),(0,2),(0,3),(0,4),(0,5),(0,6),(0,7),(0,8),(0,9),(0,10),(0,11),(0,12),(0,13),(0,15),(1,14),(1,16),(0,17)] kr ?_;have ai:=(a6.ext U);refine ρd ?_;refine dld ((a9.ext G).at (i:=4) rfl) ?_;refine ρd ?_;refine dix i ai li ?_;refine ρd ?_;refine dld (ai.cell ad) ?_;refine ρd ?_;refine dix k (ah.ext G) lk ?_;refine ρd ?_;refine dld ((ah.ext G).cell an) ?_;refine ρd ?_;refine dld ((a9.ext G).at (i:=3) rfl) ?_;refine ρd ?_;refine dix i (a1.ext U) li ?_;refine ρd ?_;refine dld ((a1.ext U).cell ac) ?_;refine ρd ?_;refine dcl (Jnp (ao.ext G) (ag.ext U) ae O am) ?_;rintro pv w5 ⟨av,a4⟩;refine ⟨a4,?_⟩;refine ρd ?_;refine dcl (Jmm av (aq.ext ((a5.trans G).trans a4))) ?_;rintro _ w6 ⟨rfl,ab⟩;refine ⟨ab,?_⟩
    refine ρd ?_;refine ρ ?_;refine Jg (k+1) (Jzs vars rs vl r i ((rs i).getD k [])) sO ⟨lk,((a5.trans G).trans a4).trans ab,?_⟩ om;rw [Qy [] lk,List.any_append,<-Z];simp
   .have a7:bb=true:=by cases bb<;>first|rfl|cases h
    subst a7;refine ρ ?_;refine Qw (i+1) sO ⟨li,C.trans o,next ?_⟩ om;rw [<-List.take_append_drop k (rs i),List.any_append,<-Z];rfl
  .have lk:k=(rs i).length:=by have:=oF h;omega
   clear h;rw [lk,List.take_length]at Z;refine ρ ?_;refine ci (λh=>?_) (λh=>?_)
   .have a8:bb=false:=by cases bb<;>first|rfl|cases h
    refine ρ ?_;refine Jj ⟨?_,(J.trans C).trans o⟩;congr 1
    symm
    refine Bool.eq_false_iff.2 λhc=>?_;have:=List.all_eq_true.1 hc i (List.mem_range.2 li);rw [a8]at Z;exact Bool.false_ne_true (Z.trans this)
   .have a7:bb=true:=by cases bb<;>first|rfl|cases h
    refine ρ ?_;exact Qw (i+1) sO ⟨li,C.trans o,next (by rw [<-Z];exact a7)⟩ om
 .have aw:i=m:=by have:=oF h;omega
  subst aw;refine ρ ?_;exact Jj ⟨congrArg Value.bool a3.symm,J.trans C⟩
end
open Go.RowKit Pl Go.Wk
theorem EVv: ElT Tryz.prog 36 47 3 32 (.agg #[.int .i64 0,.int .i64 0,.string ⟨#[]⟩]):=⟨Tryz.underlying36,info_parts kr,rfl,by decide⟩
theorem Qms(v:V)(w:World): (Instr.buildSlice 36 1 #[(0,v.val)]).run Tryz.prog w=.ok (.slice (some ⟨w.heap.size,0,none⟩) 1 1) (w.alloc (.cells v.cells.toArray 47)):=kr
theorem Blk.rowV{w:World}{b t:Nat}{v:V}(h:Blk w b t v.cells): RowV w (.slice (some ⟨b,0,none⟩) 1 1) [v]:=⟨some ⟨b,0,none⟩,1,rfl,Nat.le_refl _,by simp,by
 have:=h.rd (n:=1) (sz:=3) rfl;unfold RdR;rw [rowC_one''];exact this⟩
def enI(vars:Nat->List Nat)(rs:Nat->List Row)(v i:Nat): List Row:=(List.range (vars i).length).flatMap λk=>if (vars i).getD k 0=v then (rs i).map λr=>[r.getD k V0] else []
def enD(vars:Nat->List Nat)(rs:Nat->List Row)(v i k:Nat): List Row:=(List.range i).flatMap (enI vars rs v)++(List.range k).flatMap λk=>if (vars i).getD k 0=v then (rs i).map λr=>[r.getD k V0] else []
def Vr(D:List Row): List Row:=D.foldl (Zj []) []
theorem Qbf(D:List Row): IsSet [] D (Vr D):=by
 have:=Jzq (ds:=[]) D (done:=[]) (l:=[]) ⟨List.Pairwise.nil,λx=>Iff.rfl⟩;rwa [List.nil_append]at this
theorem Jnt(D:List Row)(r:Row): Vr (D++[r])=Zj [] (Vr D) r:=by simp [Vr]
theorem Qbg(D:List Row)(r:Row): (Vr (D++[r])).length<=(Vr D).length+1:=by
 rw [Jnt];unfold Zj;split
 .omega
 .have:=Jfk [] (Vr D) r;simp;omega
section
variable {n f:Int} {pA VA RA:Option Addr} {pn pc vc rc N m:Nat} {vars:Nat->List Nat} {rs:Nat->List Row} {w:World}
theorem Qys(hP:RefP N m vars rs)(hM:RInM w VA RA m vars rs)(v:Nat):
  Ret Tryz.prog 174 [.agg (Vv n f pA pn pc VA vc RA rc m).toArray,.int .i64 (v:Int)] w λu w'=>(RowV w' u (Qu m vars rs v)/\(Qu m vars rs v).length<=10240)/\Ext w w':=by
 have bf:=hP.m32;refine Jz Tryz.func174 Tryz.ntmps174 rfl kr rfl ?_;refine ρ ?_;refine bx (cs:=Vv n f pA pn pc VA vc RA rc m) ?_;intro w1 b a9 hb hB;refine ρ ?_;refine Jt (fun (i:Nat) (lv:Value)=>[(1,.int .i64 (v:Int)),(2,.pointer (some ⟨b,0,none⟩)),(5,lv),(6,.int .i64 (i:Int))])
  (λi lv w'=>i<=m/\Ext w1 w'/\RowsV w' lv (Vr ((List.range i).flatMap (enI vars rs v)))/\(Vr ((List.range i).flatMap (enI vars rs v))).length<=320*i) (λi _=>m-i) 0 (.slice none 0 0) sB
  ⟨Nat.zero_le _,Ext.refl _,⟨[],none,0,rfl,rfl,Nat.le_refl _,Nat.zero_le _,Rd.nil,λp hp=>by cases hp⟩,Nat.le_refl _⟩ ?_
 rintro i lv w2 ⟨hi,a8,o,J⟩;have an:=hB.ext a8;refine ρ ?_;refine ld (an.at (i:=3) rfl) ?_;refine ρ ?_;refine ci (λh=>?_) (λh=>?_)
 .have U:i<m:=by have:=oT h;omega
  clear h;have aa:∀ u∈vars i,u<32:=λu hu=>by have:=hP.lt i U u hu;have:=hP.n32;omega
  have ai:=Jkj (hP.asc i U) aa;have bb:=hP.row i U;refine ρ ?_;refine Jt (fun (k:Nat) (lv:Value)=>[(1,.int .i64 (v:Int)),(2,.pointer (some ⟨b,0,none⟩)),(5,lv),(6,.int .i64 (i:Int)),(7,.int .i64 (k:Int))])
   (λk lv w'=>k<=(vars i).length/\Ext w2 w'/\RowsV w' lv (Vr (enD vars rs v i k))/\(Vr (enD vars rs v i k)).length<=320*i+10*k) (λk _=>(vars i).length-k) 0 lv sB
   ⟨Nat.zero_le _,Ext.refl _,by unfold enD;simpa using o,by unfold enD;simpa using J⟩ ?_
  clear o J lv;rintro k lv w3 ⟨hk,C,o,J⟩;have Z:=a8.trans C;have ad:=an.ext C;obtain ⟨bc,a4,ar⟩:=(hM.ext (a9.trans Z)).v;obtain ⟨vi,aj,b8⟩:=ar i U;obtain ⟨PA,be,rfl,bj,bh,am⟩:=b8.n;refine ρ ?_;refine ld (ad.at (i:=3) rfl) ?_;refine ρ ?_;refine ix i a4 U ?_;refine ρ ?_;refine ld (a4.cell aj) ?_;refine ρ ?_;refine ci (λh=>?_) (λh=>?_)
  .have lk:k<(vars i).length:=by have:=oT h;omega
   clear h;refine ρ ?_;refine ld (ad.at (i:=3) rfl) ?_;refine ρ ?_;refine ix i a4 U ?_;refine ρ ?_;refine ld (a4.cell aj) ?_;refine ρ ?_;refine ix k am lk ?_;refine ρ ?_;refine ld (am.cell (Xh lk)) ?_;refine ρ ?_;have O:∀ D,enD vars rs v i (k+1)=D->D=enD vars rs v i k++(if (vars i).getD k 0=v then (rs i).map λr=>[r.getD k V0] else []):=λD hD=>by
    rw [<-hD];unfold enD;rw [List.range_succ,List.flatMap_append,List.append_assoc];simp
   have O:=O _ rfl;refine ci (λh=>?_) (λh=>?_)
   .have ay:(vars i).getD k 0≠v:=λe=>by have:=Gf h;omega
    rw [if_neg ay,List.append_nil]at O;refine ρ ?_;refine Jg (k+1) lv sO ⟨lk,C,by rw [O];exact o,by rw [O];omega⟩ om
   .have he:(vars i).getD k 0=v:=by have:=Gg h;omega
    rw [if_pos he]at O;clear h;refine ρ ?_;refine Jt (fun (j:Nat) (lv:Value)=>[(1,.int .i64 (v:Int)),(2,.pointer (some ⟨b,0,none⟩)),(5,lv),(6,.int .i64 (i:Int)),(7,.int .i64 (k:Int)),(8,.int .i64 (j:Int))])
     (λj lv w'=>j<=(rs i).length/\Ext w3 w'/\RowsV w' lv (Vr (enD vars rs v i k++((rs i).take j).map λr=>[r.getD k V0]))/\(Vr (enD vars rs v i k++((rs i).take j).map λr=>[r.getD k V0])).length<=320*i+10*k+j) (λj _=>(rs i).length-j) 0 lv sB
     ⟨Nat.zero_le _,Ext.refl _,by simpa using o,by simpa using J⟩ ?_
    clear o J lv;rintro j lv w4 ⟨hj,G,o,J⟩;have ah:=Z.trans G;have a6:=ad.ext G;obtain ⟨bd,a5,aw⟩:=(hM.ext (a9.trans ah)).r;obtain ⟨ri,ak,b9⟩:=aw i U;obtain ⟨TA,tc,rfl,av,au,ao,a2,ac⟩:=b9.parts;refine ρ ?_;refine ld (a6.at (i:=4) rfl) ?_;refine ρ ?_;refine ix i a5 U ?_;refine ρ ?_;refine ld (a5.cell ak) ?_;refine ρ ?_;refine ci (λh=>?_) (λh=>?_)
    .have lj:j<(rs i).length:=by have:=oT h;omega
     clear h;obtain ⟨xv,a7,a3⟩:=ac j lj;have bg:=hP.len i U _ (getD_mem' [] (rs i) lj);obtain ⟨XA,xc,rfl,af,ae,a1⟩:=id a3;refine ρ ?_;refine ld (a6.at (i:=4) rfl) ?_;refine ρ ?_;refine ix i a5 U ?_;refine ρ ?_;refine ld (a5.cell ak) ?_;refine ρ ?_;refine ix j a2 lj ?_;refine ρ ?_;refine ld (a2.cell a7) ?_;refine ρ ?_;refine ixq 3 k a1 om ?_;refine ρ ?_;refine lds (cs:=(((rs i).getD j []).getD k V0).cells) (λq u hu=>RdR.cell a1 om hu) ?_;refine ρ ?_;refine bsl (Jfn _) ?_;intro w5 b5 ag bn ba;refine ρ ?_;refine cl (Jnh (o.ext ag) (Blk.rowV ba) (BoolsV.nil _ none 0) (Qbf _).1 om) ?_;rintro ap w6 ⟨b1,aq,_⟩;have e:enD vars rs v i k++((rs i).take (j+1)).map (λr=>[r.getD k V0])=(enD vars rs v i k++((rs i).take j).map λr=>[r.getD k V0])++[[((rs i).getD j []).getD k V0]]:=by
      rw [Qy [] lj,List.map_append,List.append_assoc];rfl
     have bi:=Qbg (enD vars rs v i k++((rs i).take j).map λr=>[r.getD k V0]) [((rs i).getD j []).getD k V0];refine ρ ?_;refine Jg (j+1) ap sO ⟨lj,(G.trans ag).trans aq,by rw [e,Jnt];exact b1,by rw [e];omega⟩ om
    .have b2:j=(rs i).length:=by have:=oF h;omega
     subst b2;clear h;rw [List.take_length,<-O]at o J;refine ρ ?_;exact Jg (k+1) lv sO ⟨lk,C.trans G,o,om⟩ om
  .have ab:k=(vars i).length:=by have:=oF h;omega
   subst ab;clear h;have e:(List.range (i+1)).flatMap (enI vars rs v)=enD vars rs v i (vars i).length:=by
    unfold enD;rw [List.range_succ,List.flatMap_append];simp [enI]
   refine ρ ?_;refine Jg (i+1) lv sO ⟨U,Z,by rw [e];exact o,by rw [e];omega⟩ om
 .have b3:i=m:=by have:=oF h;omega
  subst b3;clear h;have eR:Vr ((List.range i).flatMap (enI vars rs v))=Ys i vars rs v:=rfl;rw [eR]at o J;obtain ⟨TA,tc,rfl,av,au,ao,a2,ac⟩:=o.parts;refine ρ ?_;refine Jt (fun (k:Nat) (vo:Value)=>[(5,.slice TA (Ys i vars rs v).length tc),(9,vo),(10,.int .i64 (k:Int))])
   (λk vo w'=>k<=(Ys i vars rs v).length/\Ext w2 w'/\Zm w' w2.heap.size vo ((Qu i vars rs v).take k)) (λk _=>(Ys i vars rs v).length-k) 0 (.slice none 0 0) sB
   ⟨Nat.zero_le _,Ext.refl _,Xs _ _ _ _⟩ ?_
  have ai:(Qu i vars rs v).length=(Ys i vars rs v).length:=by simp [Qu]
  rintro k vo w3 ⟨hk,C,ho⟩;refine ρ ?_;refine ci (λh=>?_) (λh=>?_)
  .have lk:k<(Ys i vars rs v).length:=by have:=oT h;omega
   clear h;obtain ⟨xv,a7,a3⟩:=ac k lk;obtain ⟨x,hx⟩:=Jyv (getD_mem' [] _ lk);rw [hx]at a3;obtain ⟨XA,xc,rfl,af,ae,a1⟩:=id (a3.ext C);refine ρ ?_;refine ix k (a2.ext C) lk ?_;refine ρ ?_;refine ld ((a2.ext C).cell a7) ?_;refine ρ ?_;refine ixq 3 0 a1 (by simp) ?_;refine ρ ?_;refine lds (cs:=x.cells) (λq u hu=>RdR.cell (r:=[x]) a1 (i:=0) (by simp) hu) ?_;refine ρ ?_;refine bsl (Qms x) ?_;intro w4 b4 G bo a6;have bm:((Qu i vars rs v).take k).length=k:=by rw [List.length_take];omega
   refine ρ ?_;refine apb (m':=1) (news:=x.cells) EVv (Jk ho G) (a6.rd (n:=1) rfl) (V.one _) (by unfold maxLen;omega) om (C.trans G).size ?_;intro v5 w5 ax b6 bl;have e:(Qu i vars rs v).take (k+1)=(Qu i vars rs v).take k++[x]:=by
    rw [Qy V0 om];congr 2
    have:(Qu i vars rs v).getD k V0=((Ys i vars rs v).getD k []).getD 0 V0:=by
     unfold Qu;simp only [List.getD,List.getElem?_map,List.getElem?_eq_getElem lk,Option.map_some,Option.getD_some]
    rw [this,hx];rfl
   refine ρ ?_;refine Jg (k+1) v5 sO ⟨lk,Qv (C.trans G) b6 (Gd (Jk ho G)),?_⟩ om;rw [Zm,e,List.length_append,rowC_app',rowC_one''];exact ax
  .have ab:k=(Ys i vars rs v).length:=by have:=oF h;omega
   rw [ab,<-ai,List.take_length]at ho;obtain ⟨A3,c3,rfl,b7,_⟩:=Jv ho;refine ρ ?_;exact Jj ⟨⟨⟨A3,c3,rfl,b7,om,Rd.own ho⟩,om⟩,(a9.trans a8).trans C⟩
end
end Go.Proofs.YtebcagekopgdhaaGreatDoor
