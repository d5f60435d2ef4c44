/- Part 41 of the proof: Rf2, Rf3, Rf4. -/
import Derived.Test.YtefpailelagbkaaGreatDoorC40
set_option linter.unusedVariables false
set_option maxRecDepth 100000
set_option maxHeartbeats 40000000
namespace Go.Wk
open Go.RowKit
section
variable {P:Program} {n:Nat} {al:AL} {w:World} {Q:Exit->Act->World->Prop} {ops:Array Oper} {rest:List Oper} {d ty:Nat} {pos:String} {aft:Array Edge}
theorem sr32g{x y:Operand}{t yt:TypeId}{k2:IntKind}{s v:Nat}(hv:v<=32)(kk:WL P n ops Q rest ((d,.int .u32 ((s / 2^v:Nat):Int))::al) w)(hx:ev al x=some (.int .u32 (s:Int)):=by rfl)(hy:ev al y=some (.int k2 (v:Int)):=by rfl)(hd:Nat.blt d n=true:=by rfl):
  WL P n ops Q (⟨some d,.binOp .shr t x y yt,ty,pos,aft,none⟩::rest) al w:=by
 rw [<-Qjg s v hv]at kk;exact wop hd (λa i=>Qgr hx hy om i (some d) w) kk
theorem Xwr{y:Operand}{t yt:TypeId}{k2:IntKind}{v:Nat}(hv:v<32)(kk:WL P n ops Q rest ((d,.int .u32 ((2^v:Nat):Int))::al) w)(hy:ev al y=some (.int k2 (v:Int)):=by rfl)(hd:Nat.blt d n=true:=by rfl):
  WL P n ops Q (⟨some d,.binOp .shl t (.const (.int .u32 1)) y yt,ty,pos,aft,none⟩::rest) al w:=by
 rw [<-Jdd hv]at kk;exact wop hd (λa i=>Jld (x:=.const (.int .u32 1)) rfl hy om i (some d) w) kk
end
end Go.Wk
namespace Go.Proofs.YtefpailelagbkaaGreatDoor
open Go.RowKit Pl Go.Wk
attribute [local irreducible] WC WL QX WD WDB WP WN WG WH
theorem IntsV.n{w:World}{v:Value}{l:List Nat}(h:IntsV w v (nz l)): ∃ A c,v=.slice A l.length c/\l.length<=c/\l.length<=1100000/\Rd w 1 A l.length (Jzr (nz l)):=by
 obtain ⟨A,c,u,o,j,i⟩:=h;rw [Jqc]at u o j i;exact ⟨A,c,u,o,j,i⟩
theorem Qvb{s v:Nat}(hs:s<4294967296)(hv:v<=32)(w:World): Ret Tryz.prog 183 [.int .u32 (s:Int),.int .i64 (v:Int)] w λu w'=>u=.bool (s.testBit v)/\w'=w:=by
 refine Jjc Tryz.func183 Tryz.ntmps183 rfl kr rfl ?_;refine ρ ?_;refine Go.Wk.kv 7 (congrArg (λz=>Value.int .u64 z) (Qnx (z:=(v:Int)) om)) ?_;refine sr32g (s:=s) (v:=v) hv ?_;refine ρ ?_;rw [Jzx hs];exact Jjq ⟨rfl,rfl⟩
theorem Qwz{l:List Nat}{v:Value}{w:World}(h:IntsV w v (nz l))(hl:∀ u∈l,u<32): Ret Tryz.prog 184 [v] w λu w'=>u=.int .u32 (Jqd l:Int)/\w'=w:=by
 obtain ⟨A,c,rfl,hc,hm,G⟩:=h.n;refine Jjc Tryz.func184 Tryz.ntmps184 rfl kr rfl ?_;refine ρ ?_;refine Jqq (fun (i:Nat)=>[(0,.slice A l.length c),(3,.int .u32 (Jqd (l.take i):Int)),(4,.int .i64 (i:Int))])
  (λi w'=>i<=l.length/\w'=w) (λi=>l.length-i) 0 sB ⟨Nat.zero_le _,rfl⟩ ?_
 rintro i Z ⟨hi,rfl⟩;refine ρ ?_;refine ci (λh=>?_) (λh=>?_)
 .have o:i<l.length:=by have:=oT h;omega
  clear h;have j:=hl _ (getD_mem' 0 l o);refine ρ ?_;refine ix i G o ?_;refine ρ ?_;refine ld (G.cell (Jxs o)) ?_;refine ρ ?_;refine Go.Wk.kv 16 (congrArg (λz=>Value.int .u64 z) (Qnx (z:=(l.getD i 0:Int)) om)) ?_;refine Xwr (v:=l.getD i 0) j ?_;refine ρ ?_;have e:Jqd (l.take (i+1))=Jqd (l.take i) ||| 2^l.getD i 0:=by rw [Jjm 0 o];exact Jrc _ _ _
  have U:Jqd (l.take i)<4294967296:=Jvm (n:=32) λv J=>hl v (List.mem_of_mem_take J);have O:=Jcs U (Jkv j);rw [O,<-e];exact Jjv (i+1) sO ⟨o,rfl⟩ om
 .have C:i=l.length:=by have:=oF h;omega
  subst C;clear h;refine ρ ?_;rw [List.take_length];exact Jjq ⟨rfl,rfl⟩
theorem Jgf{vars:List Nat}{s:Nat}{r:Row}{rv vv:Value}{w:World}(hr:RowV w rv r)(hv:IntsV w vv (nz vars))(hs:s<4294967296)(hl:∀ u∈vars,u<32)(hrl:r.length=vars.length):
  Ret Tryz.prog 185 [rv,vv,.int .u32 (s:Int)] w λu w'=>RowV w' u (pmR (Jqs vars s) r)/\Ext w w':=by
 obtain ⟨A,c,rfl,hc,hm,hR⟩:=id hr;obtain ⟨B,d,rfl,hd,aa,hV⟩:=hv.n;refine Jjc Tryz.func185 Tryz.ntmps185 rfl kr rfl ?_;refine ρ ?_;refine bsl Jng ?_;intro w0 b0 a1 a7 a8;refine ρ ?_;refine Jjt (fun (k:Nat) (J:Value)=>[(0,.slice A r.length c),(1,.slice B vars.length d),(2,.int .u32 (s:Int)),(7,J),(8,.int .i64 (k:Int))])
  (λk J w'=>k<=vars.length/\Ext w w'/\Jtq w' w.heap.size J (pmR (Jwd vars s k) r)) (λk _=>vars.length-k) 0 (.slice (some ⟨b0,0,none⟩) 0 0) sB
  ⟨Nat.zero_le _,a1,a8.own (n:=0) a7 rfl (Nat.zero_le _)⟩ ?_
 rintro k J w1 ⟨hk,o,G⟩;refine ρ ?_;refine ci (λh=>?_) (λh=>?_)
 .have lk:k<vars.length:=by have:=oT h;omega
  clear h;have U:RdR w1 A r:=Rd.ext hR o;have O:=hl _ (getD_mem' 0 vars lk);have a5:(Jwd vars s k).length<=k:=by
   have:=List.length_filter_le (λi=>s.testBit (vars.getD i 0)) (List.range k);rw [List.length_range]at this;exact this
  refine ρ ?_;refine ix k (hV.ext o) lk ?_;refine ρ ?_;refine ld ((hV.ext o).cell (Jxs lk)) ?_;refine ρ ?_;refine cl (Qvb hs (Nat.le_of_lt O) w1) ?_;rintro _ Z ⟨rfl,e1⟩;rw [e1];clear e1 Z;refine ρ ?_;refine ci (λh=>?_) (λh=>?_)
  .refine ρ ?_;refine ixq 3 k U om ?_;refine ρ ?_;refine lds (cs:=(r.getD k V0).cells) (λj u hu=>RdR.cell U om hu) ?_;refine ρ ?_;refine bsl (Qkr _) ?_;intro w2 b C hb hB;refine ρ ?_;refine apb (m':=1) (news:=(r.getD k V0).cells) EV (Jjb G C) (hB.rd (n:=1) rfl) (V.one _) (by rw [Jqx];unfold maxLen;omega) (by rw [Jqx];omega) (o.trans C).size ?_;intro v3 w3 a2 a4 a9;refine ρ ?_;refine Jjj (k+1) v3 sO ⟨lk,Jjk (o.trans C) a4 (Jkw (Jjb G C)),?_⟩ om;have e:pmR (Jwd vars s (k+1)) r=pmR (Jwd vars s k) r++[r.getD k V0]:=by rw [Jzb,if_pos h];simp [pmR]
   rw [Jtq,e,List.length_append,rowC_app',rowC_one''];exact a2
  .refine ρ ?_;refine Jjj (k+1) J sO ⟨lk,o,?_⟩ om;rw [Jzb,if_neg (by rw [h];simp),List.append_nil];exact G
 .have a3:k=vars.length:=by have:=oF h;omega
  rw [a3]at G;have a5:(Jwd vars s vars.length).length<=vars.length:=by
   have:=List.length_filter_le (λi=>s.testBit (vars.getD i 0)) (List.range vars.length);rw [List.length_range]at this;exact this
  obtain ⟨A3,c3,rfl,a6,_⟩:=Jjd G;refine ρ ?_;refine Jjq ⟨⟨A3,c3,rfl,a6,?_,Rd.own G⟩,o⟩;show (pmR (Jwd vars s vars.length) r).length<=_;rw [Jqx];omega
theorem Qhb{s:Nat}(hs:s<4294967296)(w:World): Ret Tryz.prog 160 [.int .u32 (s:Int)] w λu w'=>IntsV w' u (nz (bk s 32))/\Ext w w':=by
 refine Jjc Tryz.func160 Tryz.ntmps160 rfl kr rfl ?_;refine ρ ?_;refine Jjt (fun (k:Nat) (C:Value)=>[(0,.int .u32 (s:Int)),(3,C),(4,.int .i64 (k:Int))])
  (λk C w'=>k<=32/\Ext w w'/\Jnr w' w.heap.size C (bk s k)) (λk _=>32-k) 0 (.slice none 0 0) sB
  ⟨Nat.zero_le _,Ext.refl _,Jxj _ _ _ _⟩ ?_
 rintro k C w1 ⟨hk,j,o⟩;refine ρ ?_;refine ci (λh=>?_) (λh=>?_)
 .have lk:k<32:=by have:=oT h;omega
  clear h;have Z:=Jvc s k;refine ρ ?_;refine cl (Qvb hs hk w1) ?_;rintro _ G ⟨rfl,e1⟩;rw [e1];clear e1 G;refine ρ ?_;refine ci (λh=>?_) (λh=>?_)
  .refine ρ ?_;refine bsl (bs1Int'' _) ?_;intro w2 b i hb hB;refine ρ ?_;refine apI (Jjb o i) hB om (j.trans i).size ?_;intro v3 w3 J U a2;refine ρ ?_;refine Jjj (k+1) v3 sO ⟨lk,Jjk (j.trans i) U (Jkw (Jjb o i)),?_⟩ om;rw [Jwq,if_pos h];exact J
  .refine ρ ?_;refine Jjj (k+1) C sO ⟨lk,j,?_⟩ om;rw [Jwq,if_neg (by rw [h];simp),List.append_nil];exact o
 .have O:k=32:=by have:=oF h;omega
  rw [O]at o;have Z:=Jvc s 32;obtain ⟨A3,c3,rfl,a1,_⟩:=Jjd o;refine ρ ?_;exact Jjq ⟨⟨A3,c3,by rw [Jqc],by rw [Jqc];exact a1,by rw [Jqc];omega,by rw [Jqc];exact Rd.own o⟩,j⟩
open Go.RowKit Pl Go.Wk
structure RInM(w:World)(VA RA:Option Addr)(m:Nat)(vars:Nat->List Nat)(rs:Nat->List Row): Prop where
 v:∃ cs,Rd w 1 VA m cs/\∀ i,i<m->∃ u,cs[i]?=some u/\IntsV w u (nz (vars i))
 r:∃ cs,Rd w 1 RA m cs/\∀ i,i<m->∃ u,cs[i]?=some u/\RowsV w u (rs i)
theorem RInM.ext{w w':World}{VA RA:Option Addr}{m:Nat}{vars:Nat->List Nat}{rs:Nat->List Row}(h:RInM w VA RA m vars rs)(hx:Ext w w'): RInM w' VA RA m vars rs:=by
 obtain ⟨cs,J,G⟩:=h.v;obtain ⟨ds,C,o⟩:=h.r;exact ⟨⟨cs,J.ext hx,λi hi=>by obtain ⟨u,e,j⟩:=G i hi;exact ⟨u,e,j.ext hx⟩⟩,⟨ds,C.ext hx,λi hi=>by obtain ⟨u,e,j⟩:=o i hi;exact ⟨u,e,j.ext hx⟩⟩⟩
structure RefP(n m:Nat)(vars:Nat->List Nat)(rs:Nat->List Row): Prop where
 n32:n<=32
 m32:m<=32
 asc:∀ i,i<m->Jch (vars i)
 lt:∀ i,i<m->∀ v∈vars i,v<n
 len:∀ i,i<m->∀ r∈rs i,r.length=(vars i).length
 cov:∀ v,v<n->∃ i,i<m/\v∈vars i
 cnt:max 1 (Jjz m λi=>(rs i).length)<=5000
 row:∀ i,i<m->(rs i).length<=10
def Qzk(n f:Int)(pA:Option Addr)(pn pc:Nat)(VA:Option Addr)(vc:Nat)(RA:Option Addr)(rc m:Nat): List Value:=[.int .i64 n,.int .i64 f,.slice pA pn pc,.slice VA m vc,.slice RA m rc]
def Xyc(vars:Nat->List Nat)(rs:Nat->List Row)(vl:List Nat)(r:Row)(i:Nat)(x:Row): Bool:=decide (pmR (Jqs (vars i) (Jqd vl &&& Jqd (vars i))) x=pmR (Jqs vl (Jqd vl &&& Jqd (vars i))) r)
section
variable {n f:Int} {pA VA RA:Option Addr} {pn pc vc rc N m:Nat} {vars:Nat->List Nat} {rs:Nat->List Row} {w:World}
theorem Qjn(hP:RefP N m vars rs)(hM:RInM w VA RA m vars rs){vl:List Nat}{r:Row}{vv rv:Value}(hv:IntsV w vv (nz vl))(hr:RowV w rv r)(hvl:∀ u∈vl,u<32)(hrl:r.length=vl.length):
  Ret Tryz.prog 162 [.agg (Qzk n f pA pn pc VA vc RA rc m).toArray,rv,vv] w λu w'=>u=.bool (Qfb m vars rs vl r)/\Ext w w':=by
 have b5:=hP.m32;refine Jjc Tryz.func162 Tryz.ntmps162 rfl kr rfl ?_;refine ρ ?_;refine bx (cs:=Qzk n f pA pn pc VA vc RA rc m) ?_;intro w1 b G hb hB;refine ρ ?_;refine cl (Qwz (hv.ext G) hvl) ?_;rintro _ ak ⟨rfl,e1⟩;rw [e1];clear e1 ak;refine ρ ?_;refine Jqq (fun (i:Nat)=>[(1,rv),(2,vv),(3,.pointer (some ⟨b,0,none⟩)),(7,.int .u32 (Jqd vl:Int)),(8,.int .i64 (i:Int))])
  (λi w'=>i<=m/\Ext w1 w'/\(List.range i).all (λi=>(rs i).any (Xyc vars rs vl r i))=true) (λi=>m-i) 0 sB ⟨Nat.zero_le _,Ext.refl _,rfl⟩ ?_
 rintro i w2 ⟨hi,o,a3⟩;have aa:=hB.ext o;refine ρ ?_;refine ld (aa.at (i:=3) rfl) ?_;refine ρ ?_;refine ci (λh=>?_) (λh=>?_)
 .have li:i<m:=by have:=oT h;omega
  clear h;obtain ⟨b2,a1,ar⟩:=(hM.ext (G.trans o)).v;obtain ⟨b4,a6,au⟩:=(hM.ext (G.trans o)).r;obtain ⟨vi,ac,ag⟩:=ar i li;obtain ⟨ri,ad,b1⟩:=au i li;have J:∀ u∈vars i,u<32:=λu hu=>by have:=hP.lt i li u hu;have:=hP.n32;omega
  refine ρ ?_;refine ld (aa.at (i:=3) rfl) ?_;refine ρ ?_;refine ix i a1 li ?_;refine ρ ?_;refine ld (a1.cell ac) ?_;refine ρ ?_;refine cl (Qwz ag J) ?_;rintro _ aj ⟨rfl,e2⟩;rw [e2];clear e2 aj;have af:Jqd vl<4294967296:=Jvm (n:=32) hvl;have ax:Jqd (vars i)<4294967296:=Jvm (n:=32) J;refine ρ ?_;have a2:bits .and .u32 (Jqd vl:Int) (Jqd (vars i):Int)=((Jqd vl &&& Jqd (vars i):Nat):Int):=u32_and_nat _ _ af ax;have ae:Jqd vl &&& Jqd (vars i)<4294967296:=Nat.lt_of_le_of_lt Nat.and_le_left af;rw [a2];clear a2;refine cl (Jgf (hr.ext (G.trans o)) (hv.ext (G.trans o)) ae hvl hrl) ?_;rintro wv w3 ⟨aq,ap⟩;refine ρ ?_;refine Jjt (fun (k:Nat) (Z:Bool)=>[(1,rv),(2,vv),(3,.pointer (some ⟨b,0,none⟩)),(7,.int .u32 (Jqd vl:Int)),(8,.int .i64 (i:Int)),(9,.int .u32 ((Jqd vl &&& Jqd (vars i):Nat):Int)),(10,wv),(11,.bool Z),(12,.int .i64 (k:Int))])
   (λk Z w'=>k<=(rs i).length/\Ext w3 w'/\Z=((rs i).take k).any (Xyc vars rs vl r i)) (λk _=>(rs i).length-k) 0 false sB ⟨Nat.zero_le _,Ext.refl _,rfl⟩ ?_
  rintro k Z w4 ⟨hk,a5,U⟩;have j:=ap.trans a5;have a9:=aa.ext j;obtain ⟨TA,tc,rfl,b7,b6,b3,ah,ay⟩:=(b1.ext j).parts;refine ρ ?_;refine ld (a9.at (i:=4) rfl) ?_;refine ρ ?_;refine ix i (a6.ext j) li ?_;refine ρ ?_;refine ld ((a6.ext j).cell ad) ?_;refine ρ ?_;have next:(rs i).any (Xyc vars rs vl r i)=true->(List.range (i+1)).all (λi=>(rs i).any (Xyc vars rs vl r i))=true:=λh=>by
   rw [List.range_succ,List.all_append,a3];simp [h]
  refine ki 42 (λh=>?_) (λh=>?_)
  .have lk:k<(rs i).length:=by have:=oT h;omega
   clear h;refine ρ ?_;refine ci (λh=>?_) (λh=>?_)
   .have a8:Z=false:=by cases Z<;>first|rfl|cases h
    subst a8;obtain ⟨xv,an,ao⟩:=ay k lk;have am:=hP.len i li _ (getD_mem' [] (rs i) lk);have C:Ext w4 w4.drew:=(Ext.refl w4).drew;have O:=j.trans C;refine ρ ?_;refine dr [(0,0),(0,1),(0,2),(0,3),(0,4),(0,5),(0,6),(0,7),(0,8),(0,9),(0,10),(0,11),(0,12),(0,13),(0,15),(1,14),(1,16),(0,17)] kr ?_;have ai:=(a6.ext O);refine ρd ?_;refine dld ((a9.ext C).at (i:=4) rfl) ?_;refine ρd ?_;refine dix i ai li ?_;refine ρd ?_;refine dld (ai.cell ad) ?_;refine ρd ?_;refine dix k (ah.ext C) lk ?_;refine ρd ?_;refine dld ((ah.ext C).cell an) ?_;refine ρd ?_;refine dld ((a9.ext C).at (i:=3) rfl) ?_;refine ρd ?_;refine dix i (a1.ext O) li ?_;refine ρd ?_;refine dld ((a1.ext O).cell ac) ?_;refine ρd ?_;refine dcl (Jgf (ao.ext C) (ag.ext O) ae J am) ?_;rintro pv w5 ⟨av,a4⟩;refine ⟨a4,?_⟩;refine ρd ?_;refine dcl (Jpf av (aq.ext ((a5.trans C).trans a4))) ?_;rintro _ w6 ⟨rfl,ab⟩;refine ⟨ab,?_⟩
    refine ρd ?_;refine ρ ?_;refine Jjj (k+1) (Xyc vars rs vl r i ((rs i).getD k [])) sO ⟨lk,((a5.trans C).trans a4).trans ab,?_⟩ om;rw [Jjm [] lk,List.any_append,<-U];simp
   .have a7:Z=true:=by cases Z<;>first|rfl|cases h
    subst a7;refine ρ ?_;refine Jjv (i+1) sO ⟨li,o.trans j,next ?_⟩ om;rw [<-List.take_append_drop k (rs i),List.any_append,<-U];rfl
  .have lk:k=(rs i).length:=by have:=oF h;omega
   clear h;rw [lk,List.take_length]at U;refine ρ ?_;refine ci (λh=>?_) (λh=>?_)
   .have a8:Z=false:=by cases Z<;>first|rfl|cases h
    refine ρ ?_;refine Jjq ⟨?_,(G.trans o).trans j⟩;congr 1
    symm
    refine Bool.eq_false_iff.2 λhc=>?_;have:=List.all_eq_true.1 hc i (List.mem_range.2 li);rw [a8]at U;exact Bool.false_ne_true (U.trans this)
   .have a7:Z=true:=by cases Z<;>first|rfl|cases h
    refine ρ ?_;exact Jjv (i+1) sO ⟨li,o.trans j,next (by rw [<-U];exact a7)⟩ om
 .have aw:i=m:=by have:=oF h;omega
  subst aw;refine ρ ?_;exact Jjq ⟨congrArg Value.bool a3.symm,G.trans o⟩
end
open Go.RowKit Pl Go.Wk
theorem EVv: ElT Tryz.prog 39 71 3 32 (.agg #[.int .i64 0,.int .i64 0,.string ⟨#[]⟩]):=⟨Tryz.underlying39,info_parts kr,rfl,by decide⟩
theorem Xyv(v:V)(w:World): (Instr.buildSlice 39 1 #[(0,v.val)]).run Tryz.prog w=.ok (.slice (some ⟨w.heap.size,0,none⟩) 1 1) (w.alloc (.cells v.cells.toArray 71)):=kr
theorem Blk.rowV{w:World}{b t:Nat}{v:V}(h:Blk w b t v.cells): RowV w (.slice (some ⟨b,0,none⟩) 1 1) [v]:=⟨some ⟨b,0,none⟩,1,rfl,Nat.le_refl _,by simp,by
 have:=h.rd (n:=1) (sz:=3) rfl;unfold RdR;rw [rowC_one''];exact this⟩
def enI(vars:Nat->List Nat)(rs:Nat->List Row)(v i:Nat): List Row:=(List.range (vars i).length).flatMap λk=>if (vars i).getD k 0=v then (rs i).map λr=>[r.getD k V0] else []
def enD(vars:Nat->List Nat)(rs:Nat->List Row)(v i k:Nat): List Row:=(List.range i).flatMap (enI vars rs v)++(List.range k).flatMap λk=>if (vars i).getD k 0=v then (rs i).map λr=>[r.getD k V0] else []
def Qvd(D:List Row): List Row:=D.foldl (Jpk []) []
theorem Qpk(D:List Row): IsSet [] D (Qvd D):=by
 have:=Jys (ds:=[]) D (done:=[]) (l:=[]) ⟨List.Pairwise.nil,λx=>Iff.rfl⟩;rwa [List.nil_append]at this
theorem Qjp(D:List Row)(r:Row): Qvd (D++[r])=Jpk [] (Qvd D) r:=by simp [Qvd]
theorem Qpl(D:List Row)(r:Row): (Qvd (D++[r])).length<=(Qvd D).length+1:=by
 rw [Qjp];unfold Jpk;split
 .omega
 .have:=Qmj [] (Qvd D) r;simp;omega
section
variable {n f:Int} {pA VA RA:Option Addr} {pn pc vc rc N m:Nat} {vars:Nat->List Nat} {rs:Nat->List Row} {w:World}
theorem Qzm(hP:RefP N m vars rs)(hM:RInM w VA RA m vars rs)(v:Nat):
  Ret Tryz.prog 161 [.agg (Qzk n f pA pn pc VA vc RA rc m).toArray,.int .i64 (v:Int)] w λu w'=>(RowV w' u (Jcv m vars rs v)/\(Jcv m vars rs v).length<=10240)/\Ext w w':=by
 have bf:=hP.m32;refine Jjc Tryz.func161 Tryz.ntmps161 rfl kr rfl ?_;refine ρ ?_;refine bx (cs:=Qzk n f pA pn pc VA vc RA rc m) ?_;intro w1 b a9 hb hB;refine ρ ?_;refine Jjt (fun (i:Nat) (lv:Value)=>[(1,.int .i64 (v:Int)),(2,.pointer (some ⟨b,0,none⟩)),(5,lv),(6,.int .i64 (i:Int))])
  (λi lv w'=>i<=m/\Ext w1 w'/\RowsV w' lv (Qvd ((List.range i).flatMap (enI vars rs v)))/\(Qvd ((List.range i).flatMap (enI vars rs v))).length<=320*i) (λi _=>m-i) 0 (.slice none 0 0) sB
  ⟨Nat.zero_le _,Ext.refl _,⟨[],none,0,rfl,rfl,Nat.le_refl _,Nat.zero_le _,Rd.nil,λp hp=>by cases hp⟩,Nat.le_refl _⟩ ?_
 rintro i lv w2 ⟨hi,a8,o,J⟩;have an:=hB.ext a8;refine ρ ?_;refine ld (an.at (i:=3) rfl) ?_;refine ρ ?_;refine ci (λh=>?_) (λh=>?_)
 .have U:i<m:=by have:=oT h;omega
  clear h;have aa:∀ u∈vars i,u<32:=λu hu=>by have:=hP.lt i U u hu;have:=hP.n32;omega
  have ai:=Jnp (hP.asc i U) aa;have bb:=hP.row i U;refine ρ ?_;refine Jjt (fun (k:Nat) (lv:Value)=>[(1,.int .i64 (v:Int)),(2,.pointer (some ⟨b,0,none⟩)),(5,lv),(6,.int .i64 (i:Int)),(7,.int .i64 (k:Int))])
   (λk lv w'=>k<=(vars i).length/\Ext w2 w'/\RowsV w' lv (Qvd (enD vars rs v i k))/\(Qvd (enD vars rs v i k)).length<=320*i+10*k) (λk _=>(vars i).length-k) 0 lv sB
   ⟨Nat.zero_le _,Ext.refl _,by unfold enD;simpa using o,by unfold enD;simpa using J⟩ ?_
  clear o J lv;rintro k lv w3 ⟨hk,C,o,J⟩;have Z:=a8.trans C;have ad:=an.ext C;obtain ⟨bc,a4,ar⟩:=(hM.ext (a9.trans Z)).v;obtain ⟨vi,aj,b8⟩:=ar i U;obtain ⟨PA,be,rfl,bj,bh,am⟩:=b8.n;refine ρ ?_;refine ld (ad.at (i:=3) rfl) ?_;refine ρ ?_;refine ix i a4 U ?_;refine ρ ?_;refine ld (a4.cell aj) ?_;refine ρ ?_;refine ci (λh=>?_) (λh=>?_)
  .have lk:k<(vars i).length:=by have:=oT h;omega
   clear h;refine ρ ?_;refine ld (ad.at (i:=3) rfl) ?_;refine ρ ?_;refine ix i a4 U ?_;refine ρ ?_;refine ld (a4.cell aj) ?_;refine ρ ?_;refine ix k am lk ?_;refine ρ ?_;refine ld (am.cell (Jxs lk)) ?_;refine ρ ?_;have O:∀ D,enD vars rs v i (k+1)=D->D=enD vars rs v i k++(if (vars i).getD k 0=v then (rs i).map λr=>[r.getD k V0] else []):=λD hD=>by
    rw [<-hD];unfold enD;rw [List.range_succ,List.flatMap_append,List.append_assoc];simp
   have O:=O _ rfl;refine ci (λh=>?_) (λh=>?_)
   .have ay:(vars i).getD k 0≠v:=λe=>by have:=Jkx h;omega
    rw [if_neg ay,List.append_nil]at O;refine ρ ?_;refine Jjj (k+1) lv sO ⟨lk,C,by rw [O];exact o,by rw [O];omega⟩ om
   .have he:(vars i).getD k 0=v:=by have:=Jkz h;omega
    rw [if_pos he]at O;clear h;refine ρ ?_;refine Jjt (fun (j:Nat) (lv:Value)=>[(1,.int .i64 (v:Int)),(2,.pointer (some ⟨b,0,none⟩)),(5,lv),(6,.int .i64 (i:Int)),(7,.int .i64 (k:Int)),(8,.int .i64 (j:Int))])
     (λj lv w'=>j<=(rs i).length/\Ext w3 w'/\RowsV w' lv (Qvd (enD vars rs v i k++((rs i).take j).map λr=>[r.getD k V0]))/\(Qvd (enD vars rs v i k++((rs i).take j).map λr=>[r.getD k V0])).length<=320*i+10*k+j) (λj _=>(rs i).length-j) 0 lv sB
     ⟨Nat.zero_le _,Ext.refl _,by simpa using o,by simpa using J⟩ ?_
    clear o J lv;rintro j lv w4 ⟨hj,G,o,J⟩;have ah:=Z.trans G;have a6:=ad.ext G;obtain ⟨bd,a5,aw⟩:=(hM.ext (a9.trans ah)).r;obtain ⟨ri,ak,b9⟩:=aw i U;obtain ⟨TA,tc,rfl,av,au,ao,a2,ac⟩:=b9.parts;refine ρ ?_;refine ld (a6.at (i:=4) rfl) ?_;refine ρ ?_;refine ix i a5 U ?_;refine ρ ?_;refine ld (a5.cell ak) ?_;refine ρ ?_;refine ci (λh=>?_) (λh=>?_)
    .have lj:j<(rs i).length:=by have:=oT h;omega
     clear h;obtain ⟨xv,a7,a3⟩:=ac j lj;have bg:=hP.len i U _ (getD_mem' [] (rs i) lj);obtain ⟨XA,xc,rfl,af,ae,a1⟩:=id a3;refine ρ ?_;refine ld (a6.at (i:=4) rfl) ?_;refine ρ ?_;refine ix i a5 U ?_;refine ρ ?_;refine ld (a5.cell ak) ?_;refine ρ ?_;refine ix j a2 lj ?_;refine ρ ?_;refine ld (a2.cell a7) ?_;refine ρ ?_;refine ixq 3 k a1 om ?_;refine ρ ?_;refine lds (cs:=(((rs i).getD j []).getD k V0).cells) (λq u hu=>RdR.cell a1 om hu) ?_;refine ρ ?_;refine bsl (Qkr _) ?_;intro w5 b5 ag bn ba;refine ρ ?_;refine cl (Jph (o.ext ag) (Blk.rowV ba) (BoolsV.nil _ none 0) (Qpk _).1 om) ?_;rintro ap w6 ⟨b1,aq,_⟩;have e:enD vars rs v i k++((rs i).take (j+1)).map (λr=>[r.getD k V0])=(enD vars rs v i k++((rs i).take j).map λr=>[r.getD k V0])++[[((rs i).getD j []).getD k V0]]:=by
      rw [Jjm [] lj,List.map_append,List.append_assoc];rfl
     have bi:=Qpl (enD vars rs v i k++((rs i).take j).map λr=>[r.getD k V0]) [((rs i).getD j []).getD k V0];refine ρ ?_;refine Jjj (j+1) ap sO ⟨lj,(G.trans ag).trans aq,by rw [e,Qjp];exact b1,by rw [e];omega⟩ om
    .have b2:j=(rs i).length:=by have:=oF h;omega
     subst b2;clear h;rw [List.take_length,<-O]at o J;refine ρ ?_;exact Jjj (k+1) lv sO ⟨lk,C.trans G,o,om⟩ om
  .have ab:k=(vars i).length:=by have:=oF h;omega
   subst ab;clear h;have e:(List.range (i+1)).flatMap (enI vars rs v)=enD vars rs v i (vars i).length:=by
    unfold enD;rw [List.range_succ,List.flatMap_append];simp [enI]
   refine ρ ?_;refine Jjj (i+1) lv sO ⟨U,Z,by rw [e];exact o,by rw [e];omega⟩ om
 .have b3:i=m:=by have:=oF h;omega
  subst b3;clear h;have eR:Qvd ((List.range i).flatMap (enI vars rs v))=Qft i vars rs v:=rfl;rw [eR]at o J;obtain ⟨TA,tc,rfl,av,au,ao,a2,ac⟩:=o.parts;refine ρ ?_;refine Jjt (fun (k:Nat) (vo:Value)=>[(5,.slice TA (Qft i vars rs v).length tc),(9,vo),(10,.int .i64 (k:Int))])
   (λk vo w'=>k<=(Qft i vars rs v).length/\Ext w2 w'/\Jtq w' w2.heap.size vo ((Jcv i vars rs v).take k)) (λk _=>(Qft i vars rs v).length-k) 0 (.slice none 0 0) sB
   ⟨Nat.zero_le _,Ext.refl _,Jxj _ _ _ _⟩ ?_
  have ai:(Jcv i vars rs v).length=(Qft i vars rs v).length:=by simp [Jcv]
  rintro k vo w3 ⟨hk,C,ho⟩;refine ρ ?_;refine ci (λh=>?_) (λh=>?_)
  .have lk:k<(Qft i vars rs v).length:=by have:=oT h;omega
   clear h;obtain ⟨xv,a7,a3⟩:=ac k lk;obtain ⟨x,hx⟩:=Jrm (getD_mem' [] _ lk);rw [hx]at a3;obtain ⟨XA,xc,rfl,af,ae,a1⟩:=id (a3.ext C);refine ρ ?_;refine ix k (a2.ext C) lk ?_;refine ρ ?_;refine ld ((a2.ext C).cell a7) ?_;refine ρ ?_;refine ixq 3 0 a1 (by simp) ?_;refine ρ ?_;refine lds (cs:=x.cells) (λq u hu=>RdR.cell (r:=[x]) a1 (i:=0) (by simp) hu) ?_;refine ρ ?_;refine bsl (Xyv x) ?_;intro w4 b4 G bo a6;have bm:((Jcv i vars rs v).take k).length=k:=by rw [List.length_take];omega
   refine ρ ?_;refine apb (m':=1) (news:=x.cells) EVv (Jjb ho G) (a6.rd (n:=1) rfl) (V.one _) (by unfold maxLen;omega) om (C.trans G).size ?_;intro v5 w5 ax b6 bl;have e:(Jcv i vars rs v).take (k+1)=(Jcv i vars rs v).take k++[x]:=by
    rw [Jjm V0 om];congr 2
    have:(Jcv i vars rs v).getD k V0=((Qft i vars rs v).getD k []).getD 0 V0:=by
     unfold Jcv;simp only [List.getD,List.getElem?_map,List.getElem?_eq_getElem lk,Option.map_some,Option.getD_some]
    rw [this,hx];rfl
   refine ρ ?_;refine Jjj (k+1) v5 sO ⟨lk,Jjk (C.trans G) b6 (Jkw (Jjb ho G)),?_⟩ om;rw [Jtq,e,List.length_append,rowC_app',rowC_one''];exact ax
  .have ab:k=(Qft i vars rs v).length:=by have:=oF h;omega
   rw [ab,<-ai,List.take_length]at ho;obtain ⟨A3,c3,rfl,b7,_⟩:=Jjd ho;refine ρ ?_;exact Jjq ⟨⟨⟨A3,c3,rfl,b7,om,Rd.own ho⟩,om⟩,(a9.trans a8).trans C⟩
end
end Go.Proofs.YtefpailelagbkaaGreatDoor
