/- Part 7 of the proof: Row, Bits, Srt. -/
import Derived.Test.YtefpailelagbkaaGreatDoorC04
import Derived.Test.YtefpailelagbkaaGreatDoorC06
set_option linter.unusedVariables false
set_option maxRecDepth 100000
set_option maxHeartbeats 40000000
namespace Go.Proofs.YtefpailelagbkaaGreatDoor
open Pl
structure PreC{α:Type}(f:α->α->Int): Prop where
 anti:∀ a b,f b a = - f a b
 trans:∀ a b c,f a b<=0->f b c<=0->f a c<=0
theorem PreC.refl{α:Type}{f:α->α->Int}(h:PreC f)(a:α): f a a=0:=by have:=h.anti a a;omega
structure Cmp{α:Type}(f:α->α->Int): Prop where
 anti:∀ a b,f b a = - f a b
 zero:∀ a b,f a b=0->a=b
 trans:∀ a b c,f a b<=0->f b c<=0->f a c<=0
theorem Cmp.pre{α β:Type}{f:α->α->Int}(h:Cmp f)(g:β->α): PreC λa b=>f (g a) (g b):=⟨λa b=>h.anti _ _,λa b c=>h.trans _ _ _⟩
section
variable {α:Type} {f:α->α->Int}
theorem Cmp.refl(h:Cmp f)(a:α): f a a=0:=by have:=h.anti a a;omega
theorem Cmp.lt_le(h:Cmp f){a b c:α}(h1:f a b<0)(h2:f b c<=0): f a c<0:=by
 have i:=h.trans a b c om h2;rcases Int.lt_or_eq_of_le i with h4|h4
 .exact h4
 .have:=h.zero _ _ h4;subst this;have:=h.anti a b;omega
theorem Cmp.le_lt(h:Cmp f){a b c:α}(h1:f a b<=0)(h2:f b c<0): f a c<0:=by
 have i:=h.trans a b c h1 om;rcases Int.lt_or_eq_of_le i with h4|h4
 .exact h4
 .have:=h.zero _ _ h4;subst this;have:=h.anti a b;omega
theorem Cmp.lt_trans(h:Cmp f){a b c:α}(h1:f a b<0)(h2:f b c<0): f a c<0:=h.lt_le h1 om
theorem Cmp.tot(h:Cmp f)(a b:α): f a b<0∨a=b∨f b a<0:=by
 have i:=h.anti a b;rcases Int.lt_trichotomy (f a b) 0 with h2|h2|h2
 .exact .inl h2
 .exact .inr (.inl (h.zero _ _ h2))
 .exact .inr (.inr om)
theorem Cmp.flip(h:Cmp f): Cmp λa b=>- f a b :=
 ⟨λa b=>by rw [h.anti a b],λa b h0=>h.zero a b om,λa b c j i=>by
  have C:=h.anti a b;have u:=h.anti b c;have o:=h.anti a c;have:=h.trans c b a om om;omega⟩
end
theorem cmp_sgn: Cmp sgn:=by
 refine ⟨λa b=>?_,λa b h=>?_,λa b c j i=>?_⟩
 .unfold sgn;split<;>split<;>omega
 .unfold sgn at h;split at h
  .omega
  .split at h<;>omega
 .unfold sgn at *;by_cases e1:a<b<;>by_cases e2:b<a<;>by_cases e3:b<c<;>by_cases e4:c<b<;>by_cases e5:a<c<;>by_cases e6:c<a<;>simp_all<;>omega
theorem Xwt(a b:Int): sgn a b = -1∨sgn a b=0∨sgn a b=1:=by
 unfold sgn;split
 .simp
 .split<;>simp
theorem Qmp: ∀ x y:List UInt8,Lib.compareBytes y x = - Lib.compareBytes x y
 | [],[]=>rfl
 | [],_::_=>rfl
 | _::_,[]=>rfl
 | a::x,b::y=>by
  simp only [Lib.compareBytes];have ih:=Qmp x y;simp only [UInt8.lt_iff_toNat_lt];by_cases h:a.toNat<b.toNat
  .rw [if_pos h,if_neg om,if_pos h];rfl
  .rw [if_neg h];by_cases h2:b.toNat<a.toNat
   .rw [if_pos h2,if_neg h,if_pos h2]
   .rw [if_neg h2,if_neg h,if_neg h2];exact ih
theorem Qmm: ∀ x y:List UInt8,Lib.compareBytes x y=0->x=y
 | [],[],_=>rfl
 | [],_::_,h=>by simp [Lib.compareBytes]at h
 | _::_,[],h=>by simp [Lib.compareBytes]at h
 | a::x,b::y,h=>by
  simp only [Lib.compareBytes,UInt8.lt_iff_toNat_lt]at h;split at h
  .cases h
  .split at h
   .cases h
   .rw [Qmm x y h,UInt8.toNat_inj.1 (show a.toNat=b.toNat by omega)]
theorem Qyv: ∀ x y z:List UInt8,Lib.compareBytes x y<=0->Lib.compareBytes y z<=0->Lib.compareBytes x z<=0
 | [],_,[],_,_=>by simp [Lib.compareBytes]
 | [],_,_::_,_,_=>by simp [Lib.compareBytes]
 | _::_,[],_,h,_=>by simp [Lib.compareBytes]at h
 | _::_,_::_,[],_,h=>by simp [Lib.compareBytes]at h
 | a::x,b::y,c::z,h1,h2=>by
  simp only [Lib.compareBytes,UInt8.lt_iff_toNat_lt]at *;split at h1
  .split at h2
   .rw [if_pos om];decide
   .split at h2
    .exact absurd h2 (by decide)
    .rw [if_pos om];decide
  .split at h1
   .exact absurd h1 (by decide)
   .split at h2
    .rw [if_pos om];decide
    .split at h2
     .exact absurd h2 (by decide)
     .rw [if_neg om,if_neg om];exact Qyv x y z h1 h2
theorem cb_3: ∀ x y:List UInt8,Lib.compareBytes x y = -1∨Lib.compareBytes x y=0∨Lib.compareBytes x y=1
 | [],[]=>by simp [Lib.compareBytes]
 | [],_::_=>by simp [Lib.compareBytes]
 | _::_,[]=>by simp [Lib.compareBytes]
 | a::x,b::y=>by
  simp only [Lib.compareBytes];split
  .simp
  .split
   .simp
   .exact cb_3 x y
theorem V.ext{a b:V}(h1:a.kind=b.kind)(h2:a.num=b.num)(h3:a.bytes=b.bytes): a=b:=by
 obtain ⟨k,n,s⟩:=a;obtain ⟨o,j,i⟩:=b;simp only [V.bytes]at *;obtain ⟨d⟩:=s;obtain ⟨u⟩:=i;simp only at h1 h2 h3;rw [h1,h2,Array.toList_inj.1 h3]
theorem Qwt{a b:Int}(h:a≠b): sgn a b≠0:=λe=>h (cmp_sgn.zero _ _ e)
theorem Xjc(a b:V): cmpV a b = -1∨cmpV a b=0∨cmpV a b=1:=by
 unfold cmpV;split
 .exact Xwt _ _
 .split
  .exact Xwt _ _
  .exact cb_3 _ _
theorem cmp_V: Cmp cmpV:=by
 refine ⟨λa b=>?_,λa b h=>?_,λa b c j i=>?_⟩
 .unfold cmpV;by_cases h:a.kind=b.kind
  .rw [if_neg (not_not_intro h),if_neg (not_not_intro h.symm)];by_cases i:a.num=b.num
   .rw [if_neg (not_not_intro i),if_neg (not_not_intro i.symm)];exact Qmp _ _
   .rw [if_pos i,if_pos (Ne.symm i)];exact cmp_sgn.anti _ _
  .rw [if_pos h,if_pos (Ne.symm h)];exact cmp_sgn.anti _ _
 .unfold cmpV at h;split at h
  .rename_i j;exact absurd h (Qwt j)
  .rename_i j;split at h
   .rename_i i;exact absurd h (Qwt i)
   .rename_i i;exact V.ext (by simpa using j) (by simpa using i) (Qmm _ _ h)
 .unfold cmpV at *;by_cases k1:a.kind=b.kind<;>by_cases k2:b.kind=c.kind
  .have C:a.kind=c.kind:=k1.trans k2;rw [if_neg (by simp [k1])]at j;rw [if_neg (by simp [k2])]at i;rw [if_neg (by simp [C])];by_cases n1:a.num=b.num<;>by_cases n2:b.num=c.num
   .rw [if_neg (by simp [n1])]at j;rw [if_neg (by simp [n2])]at i;rw [if_neg (by simp [n1,n2])];exact Qyv _ _ _ j i
   .rw [if_pos n2]at i;rw [n1,if_pos n2];exact i
   .rw [if_pos n1]at j;rw [<-n2,if_pos n1];exact j
   .rw [if_pos n1]at j;rw [if_pos n2]at i;have u:=cmp_sgn.lt_le (a:=a.num) (c:=c.num) (by have:=Qwt n1;omega) i;have o:a.num≠c.num:=by intro e;rw [e,cmp_sgn.refl]at u;omega
    rw [if_pos o];omega
  .rw [if_pos k2]at i;rw [k1,if_pos k2];exact i
  .rw [if_pos k1]at j;rw [<-k2,if_pos k1];exact j
  .rw [if_pos k1]at j;rw [if_pos k2]at i;have u:=cmp_sgn.lt_le (a:=a.kind) (c:=c.kind) (by have:=Qwt k1;omega) i;have o:a.kind≠c.kind:=by intro e;rw [e,cmp_sgn.refl]at u;omega
   rw [if_pos o];omega
theorem Jqj(a:V): cmpV a a=0:=cmp_V.refl a
theorem Xvn(d:Bool): neg d 0=0:=by cases d<;>rfl
theorem Jmz(d:Bool): Cmp λa b=>neg d (cmpV a b):=by
 cases d
 .exact cmp_V
 .exact cmp_V.flip
theorem Jnc: ∀ (a b:List V) (ds:List Bool),Jxg b a ds = - Jxg a b ds
 | [],[],_=>rfl
 | [],_::_,_=>rfl
 | _::_,[],_=>rfl
 | x::a,y::b,ds=>by
  simp only [Jxg];have h:=cmp_V.anti x y;by_cases e:cmpV x y=0
  .rw [if_pos e,if_pos om];exact Jnc a b _
  .rw [if_neg e,if_neg om];exact (Jmz _).anti x y
theorem Jvp: ∀ (a b:List V) (ds:List Bool),Jxg a b ds=0->a=b
 | [],[],_,_=>rfl
 | [],_::_,_,h=>by simp [Jxg]at h
 | _::_,[],_,h=>by simp [Jxg]at h
 | x::a,y::b,ds,h=>by
  simp only [Jxg]at h;split at h
  .rename_i e;rw [cmp_V.zero _ _ e,Jvp a b _ h]
  .rename_i e;exact absurd (congrArg (cmpV x) ((Jmz _).zero x y h)) (by rw [Jqj];intro e2;exact e e2.symm)
theorem Jrd: ∀ (a b c:List V) (ds:List Bool),Jxg a b ds<=0->Jxg b c ds<=0->Jxg a c ds<=0
 | [],_,[],_,_,_=>by simp [Jxg]
 | [],_,_::_,_,_,_=>by simp [Jxg]
 | _::_,[],_,_,h,_=>by simp [Jxg]at h
 | _::_,_::_,[],_,_,h=>by simp [Jxg]at h
 | x::a,y::b,z::c,ds,h1,h2=>by
  simp only [Jxg]at *;have N:=Jmz (ds.getD 0 false);by_cases e1:cmpV x y=0
  .rw [if_pos e1]at h1;rw [cmp_V.zero _ _ e1];by_cases e2:cmpV y z=0
   .rw [if_pos e2]at h2 ⊢;exact Jrd a b c _ h1 h2
   .rw [if_neg e2]at h2 ⊢;exact h2
  .rw [if_neg e1]at h1;by_cases e2:cmpV y z=0
   .rw [<-cmp_V.zero _ _ e2,if_neg e1];exact h1
   .rw [if_neg e2]at h2;have hne:neg (ds.getD 0 false) (cmpV x y)≠0:=λe=>e1 (by have:=N.zero x y e;rw [this];exact Jqj y);have h3:=N.lt_le (a:=x) (b:=y) (c:=z) om h2;have e3:cmpV x z≠0:=by intro e;simp only [e,Xvn]at h3;omega
    rw [if_neg e3];omega
theorem Jtd(ds:List Bool): Cmp λa b=>Jxg a b ds:=⟨λa b=>Jnc a b ds,λa b h=>Jvp a b ds h,λa b c j i=>Jrd a b c ds j i⟩
theorem Jxp(a:List V)(ds:List Bool): Jxg a a ds=0:=(Jtd ds).refl a
open Go.RowKit Pl Go.Wk
attribute [local irreducible] WC WL QX WD WDB
def RowV(w:World)(v:Value)(r:List V): Prop:=∃ A c,v=.slice A r.length c/\r.length<=c/\r.length<=1100000/\RdR w A r
def BoolsV(w:World)(v:Value)(ds:List Bool): Prop:=∃ A c,v=.slice A ds.length c/\ds.length<=c/\ds.length<=1100000/\RdB w A ds
theorem RowV.ext{w w':World}{v:Value}{r:List V}(h:RowV w v r)(hx:Ext w w'): RowV w' v r:=by
 obtain ⟨A,c,u,o,j,i⟩:=h;exact ⟨A,c,u,o,j,i.ext hx⟩
theorem BoolsV.ext{w w':World}{v:Value}{r:List Bool}(h:BoolsV w v r)(hx:Ext w w'): BoolsV w' v r:=by
 obtain ⟨A,c,u,o,j,i⟩:=h;exact ⟨A,c,u,o,j,i.ext hx⟩
theorem RowV.nil(w:World)(A:Option Addr)(c:Nat): RowV w (.slice A 0 c) []:=⟨A,c,rfl,by simp,by simp,Rd.nil⟩
theorem BoolsV.nil(w:World)(A:Option Addr)(c:Nat): BoolsV w (.slice A 0 c) []:=⟨A,c,rfl,by simp,by simp,Rd.nil⟩
theorem Qml{a b:List V}{ds:List Bool}{k:Nat}(ha:k<a.length)(hb:k<b.length): Jxg (a.drop k) (b.drop k) (ds.drop k) =
  if cmpV (a.getD k V0) (b.getD k V0)=0 then Jxg (a.drop (k+1)) (b.drop (k+1)) (ds.drop (k+1)) else neg (ds.getD k false) (cmpV (a.getD k V0) (b.getD k V0)):=by
 rw [List.drop_eq_getElem_cons ha,List.drop_eq_getElem_cons hb,Jxg];have o:a.getD k V0=a[k]:=by simp [List.getD,List.getElem?_eq_getElem ha]
 have j:b.getD k V0=b[k]:=by simp [List.getD,List.getElem?_eq_getElem hb]
 have i:(ds.drop k).getD 0 false=ds.getD k false:=by simp [List.getD,List.getElem?_drop]
 rw [o,j,i,List.drop_drop]
theorem Qyr{a b:List V}{ds:List Bool}{k:Nat}(hk:a.length<=k∨b.length<=k)(hka:k<=a.length)(hkb:k<=b.length): Jxg (a.drop k) (b.drop k) (ds.drop k)=if a.length<b.length then -1 else if b.length<a.length then 1 else 0:=by
 rcases Nat.lt_trichotomy a.length b.length with h|h|h
 .rw [if_pos h,List.drop_of_length_le (by omega:a.length<=k),List.drop_eq_getElem_cons (by omega:k<b.length)];rfl
 .rw [if_neg om,if_neg om,List.drop_of_length_le (by omega:a.length<=k),List.drop_of_length_le (by omega:b.length<=k)];rfl
 .rw [if_neg om,if_pos h,List.drop_of_length_le (by omega:b.length<=k),List.drop_eq_getElem_cons (by omega:k<a.length)];rfl
theorem Qwk(a b:V): IntKind.i64.wrap (0-cmpV a b)=neg true (cmpV a b):=by
 rcases Xjc a b with h|h|h<;>rw [h]<;>rfl
theorem Xvr(n m:Nat): (if (m:Int)<(n:Int) then (m:Int) else (n:Int))=((min n m:Nat):Int):=by split<;>omega
theorem Jtb{va vb vd:Value}{a b:List V}{ds:List Bool}{w:World}(ha:RowV w va a)(hb:RowV w vb b)(hd:BoolsV w vd ds):
  Ret Tryz.prog 29 [va,vb,vd] w λr w'=>r=.int .i64 (Jxg a b ds)/\Ext w w':=by
 obtain ⟨A,ac,rfl,aj,ai,ha⟩:=ha;obtain ⟨B,bc,rfl,ah,ag,hb⟩:=hb;obtain ⟨D,dc,rfl,ae,ad,hd⟩:=hd;refine Jjc Tryz.func29 Tryz.ntmps29 rfl kr rfl ?_;refine ρ ?_;rw [Xvr];refine Jqq (λk=>[(0,.slice A a.length ac),(1,.slice B b.length bc),(2,.slice D ds.length dc),(13,.int .i64 ((min a.length b.length:Nat):Int)),(14,.int .i64 ((k:Nat):Int))])
  (λk w'=>Ext w w'/\k<=a.length/\k<=b.length/\Jxg a b ds=Jxg (a.drop k) (b.drop k) (ds.drop k)) (λk=>a.length-k) 0 sB ⟨Ext.refl w,Nat.zero_le _,Nat.zero_le _,rfl⟩ ?_
 rintro k w1 ⟨G,a8,a7,he⟩;have aa:=ha.ext G;have a9:=hb.ext G;have af:=hd.ext G;refine ρ ?_;have a6:(a.length<=k∨b.length<=k)->Jxg a b ds=if a.length<b.length then -1 else if b.length<a.length then 1 else 0:=λh=>by rw [he,Qyr h a8 a7]
 refine ci (λh=>?_) (λh=>?_)
 .have ab:k<min a.length b.length:=by have:=oT h;omega
  have U:k<a.length:=om
  have O:k<b.length:=om
  refine ρ ?_;refine dr [(0,0),(0,1),(0,2),(0,3),(0,4),(0,5),(0,6),(0,7),(1,8),(0,9)] kr ?_;have C:Ext w1 w1.drew:=(Ext.refl w1).drew;have a5:=aa.ext C;have a4:=a9.ext C;refine ρd ?_;refine Qrr 3 k a5 U ?_;refine ρd ?_;refine Jvb (λj u hu=>RdR.cell a5 U hu) ?_;refine ρd ?_;refine Qrr 3 k a4 O ?_;refine ρd ?_;refine Jvb (λj u hu=>RdR.cell a4 O hu) ?_;refine ρd ?_;refine dcl (Jxk (a.getD k V0) (b.getD k V0) _) ?_;rintro x w2 ⟨rfl,a1⟩;refine ⟨a1,?_⟩;have i:Ext w w2:=(G.trans C).trans a1;have a3:=hd.ext i;refine ρd ?_;refine ρ ?_;have step:=Qml (ds:=ds) U O;refine ci (λh0=>?_) (λh0=>?_)
  .refine ρ ?_;refine Jjv (k+1) sB ⟨i,om,om,?_⟩ om;rw [he,step,if_pos (Jqn h0)]
  have J:=Jqk h0;refine ρ ?_;refine ki 32 (λh=>?_) (λh=>?_)
  .have a2:k<ds.length:=by have:=oT h;omega
   refine ρ ?_;refine ix k a3 a2 ?_;refine ρ ?_;refine ld (RdB.cell a3 a2) ?_;refine ρ ?_;refine ci (λo=>?_) (λo=>?_)
   .refine ρ ?_;refine Jjq ⟨?_,i⟩;rw [Qwk,he,step,o,if_neg J]
   .refine ρ ?_;refine Jjq ⟨?_,i⟩;rw [he,step,o,if_neg J];rfl
  .have o:ds.getD k false=false:=by
    have:=oF h;simp [List.getD,List.getElem?_eq_none (show ds.length<=k by omega)]
   refine ρ ?_;refine Jjq ⟨?_,i⟩;rw [he,step,o,if_neg J];rfl
 .have Z:=a6 (by have:=oF h;omega);refine ρ ?_;refine ci (λh=>?_) (λo=>?_)
  .refine ρ ?_;refine Jjq ⟨?_,G⟩;rw [Z,if_pos (by have:=oT h;omega)]
  refine ρ ?_;refine ci (λh=>?_) (λh2=>?_)
  .refine ρ ?_;refine Jjq ⟨?_,G⟩;rw [Z,if_neg (by have:=oF o;omega),if_pos (by have:=oT h;omega)]
  .refine ρ ?_;refine Jjq ⟨?_,G⟩;rw [Z,if_neg (by have:=oF o;omega),if_neg (by have:=oF h2;omega)]
theorem Jbw{va vb:Value}{a b:List V}{w:World}(ha:RowV w va a)(hb:RowV w vb b):
  Ret Tryz.prog 117 [va,vb] w λr w'=>r=.int .i64 (Jxg a b [])/\Ext w w':=by
 refine Jjc Tryz.func117 Tryz.ntmps117 rfl kr rfl ?_;refine ρ ?_;refine cl (Jtb ha hb (BoolsV.nil w none 0)) ?_;rintro v j ⟨rfl,i⟩;refine ρ ?_;exact Jjq ⟨rfl,i⟩
theorem Qrz(a b:List V)(ds:List Bool): (Jxg a b ds == 0)=true↔a=b:=by
 constructor
 .intro h;exact Jvp _ _ _ (Jqn h)
 .intro h;rw [h,Jxp];rfl
instance:DecidableEq V:=λa b=>if h:cmpV a b=0 then isTrue (cmp_V.zero _ _ h) else isFalse (λe=>h (by rw [e];exact Jqj b))
theorem Qrx(a b:List V)(ds:List Bool): (Jxg a b ds == 0)=decide (a=b):=by
 rw [Bool.eq_iff_iff,Qrz,decide_eq_true_iff]
theorem Jgd{va vb:Value}{a b:List V}{w:World}(ha:RowV w va a)(hb:RowV w vb b):
  Ret Tryz.prog 114 [va,vb] w λr w'=>r=.bool (decide (a=b))/\Ext w w':=by
 refine Jjc Tryz.func114 Tryz.ntmps114 rfl kr rfl ?_;refine ρ ?_;refine cl (Jbw ha hb) ?_;rintro v j ⟨rfl,i⟩;refine ρ ?_;refine Jjq ⟨?_,i⟩;rw [Qrx]
open Go.RowKit Pl Go.Wk
attribute [local irreducible] WP
def Jkp(x:Nat): Nat:=if x=0 then 0 else Nat.log2 x+1
theorem Qzz{x:Nat}: x<2^Jkp x:=by
 unfold Jkp;split
 .omega
 .exact Nat.lt_log2_self
theorem Qlb{x:Nat}(h:x≠0): 0<Jkp x/\2^(Jkp x-1)<=x:=by
 unfold Jkp;rw [if_neg h];exact ⟨om,by simpa using Nat.log2_self_le h⟩
theorem Jfq{x k:Nat}(h:x<2^k): Jkp x<=k:=by
 unfold Jkp;split
 .omega
 .rename_i h0;have:=(Nat.log2_lt h0).2 h;omega
theorem Xxv{x k:Nat}(h1:2^k<=x)(h2:x<2^(k+1)): Jkp x=k+1:=by
 have j:=Jfq h2;have i:=Qzz (x:=x);rcases Nat.lt_or_ge (Jkp x) (k+1) with h|h
 .have:=Nat.pow_le_pow_right (show 0<2 by omega) (show Jkp x<=k by omega);omega
 .omega
theorem Jvk{x k:Nat}(h:2^k<=x): Jkp x=k+Jkp (x / 2^k):=by
 have i:0<2^k:=Nat.pow_pos om;have o:x / 2^k≠0:=by
  have:=(Nat.le_div_iff_mul_le i).2 (show 1*2^k<=x by omega);omega
 obtain ⟨a,b⟩:=Qlb o;have c:=Qzz (x:=x / 2^k);generalize Jkp (x / 2^k)=m at *
 obtain ⟨m,rfl⟩:∃ j,m=j+1:=⟨m-1,om⟩;rw [Nat.add_sub_cancel]at b;have:=Xxv (x:=x) (k:=k+m) (by rw [Nat.pow_add];have:=(Nat.le_div_iff_mul_le i).1 b;rw [Nat.mul_comm];exact this) (by
  rw [show k+m+1=(m+1)+k by omega,Nat.pow_add];exact (Nat.div_lt_iff_lt_mul i).1 c)
 omega
theorem tabB(s:ByteArray)(h:((List.range 256).all λj=>(s.data.toList.getD j 0).toNat == Jkp j)=true){j:Nat}(hj:j<256): (s.data.toList.getD j 0).toNat=Jkp j:=by
 have:=List.all_eq_true.1 h j (List.mem_range.2 hj);simpa using this
theorem Jhz(y k m:Nat): ((y:Int)).fdiv (2^(min ((k:Nat):Int).toNat m))=((y / 2^(min k m):Nat):Int):=by
 rw [Int.toNat_natCast,Int.fdiv_eq_ediv_of_nonneg _ (Int.le_of_lt (Int.pow_pos om))];rw [Int.natCast_ediv];rfl
theorem Qlc(x:Nat)(hx:x<18446744073709551616)(w:World): Ret Tryz.prog 174 [.int .u64 (x:Int)] w λv w'=>v=.int .i64 (Jkp x:Int)/\w'=w:=by
 refine Jjc Tryz.func174 Tryz.ntmps174 rfl kr rfl ?_;refine ρ ?_;refine Jhn (fun (y s:Nat)=>[(0,.int .u64 (y:Int)),(2,.int .i64 (s:Int))]) (λy s w'=>w'=w/\Jkp x=s+Jkp y/\y<4294967296/\s<=32) ?_ ?_
 .refine ci (λh=>?_) (λh=>?_)
  .have o:=oT h;refine ρ ?_;refine Qdw rfl rfl (by decide) rfl ?_;refine kv 6 (u:=.int .u64 ((x / 2^32:Nat):Int)) (congrArg (Value.int .u64) (Jhz x 32 64)) ?_;refine ρ ?_;have e:=Jvk (x:=x) (k:=32) om;exact Jzz (x / 2^32) 32 sO ⟨rfl,e,om,om⟩
  .have o:=oF h;refine ρ ?_;exact Jzz x 0 sO ⟨rfl,om,om,om⟩
 rintro j J w ⟨rfl,e0,b0,c0⟩;refine ρ ?_;refine Jhn (fun (y s:Nat)=>[(0,.int .u64 (y:Int)),(2,.int .i64 (s:Int))]) (λy s w'=>w'=w/\Jkp x=s+Jkp y/\y<65536/\s<=48) ?_ ?_
 .refine ci (λh=>?_) (λh=>?_)
  .have o:=oT h;refine ρ ?_;refine Qdw rfl rfl (by decide) rfl ?_;refine kv 10 (u:=.int .u64 ((j / 2^16:Nat):Int)) (congrArg (Value.int .u64) (Jhz j 16 64)) ?_;refine ρ ?_;have e:=Jvk (x:=j) (k:=16) om;exact Jzz (j / 2^16) (J+16) sO ⟨rfl,om,om,om⟩
  .have o:=oF h;refine ρ ?_;exact Jzz j J sO ⟨rfl,om,om,om⟩
 rintro i G w ⟨rfl,e1,b1,c1⟩;refine ρ ?_;refine Jhn (fun (y s:Nat)=>[(0,.int .u64 (y:Int)),(2,.int .i64 (s:Int))]) (λy s w'=>w'=w/\Jkp x=s+Jkp y/\y<256/\s<=56) ?_ ?_
 .refine ci (λh=>?_) (λh=>?_)
  .have o:=oT h;refine ρ ?_;refine Qdw rfl rfl (by decide) rfl ?_;refine kv 16 (u:=.int .u64 ((i / 2^8:Nat):Int)) (congrArg (Value.int .u64) (Jhz i 8 64)) ?_;refine ρ ?_;have e:=Jvk (x:=i) (k:=8) om;exact Jzz (i / 2^8) (G+8) sO ⟨rfl,om,om,om⟩
  .have o:=oF h;refine ρ ?_;exact Jzz i G sO ⟨rfl,om,om,om⟩
 rintro C U w ⟨rfl,Z,O,c2⟩;refine ρ ?_;refine Qfk Qfw C rfl rfl rfl rfl ?_ ?_ rfl ?_
 .rw [IntKind.wrap_u8];omega
 .exact nM O (by decide)
 refine kv 22 (u:=.int .u8 (Jkp C:Int)) (congrArg (λz:Nat=>Value.int .u8 (z:Int)) (tabB _ kr O)) ?_;have:=Jfq (x:=C) (k:=8) om;refine ρ ?_;refine Jjq ⟨?_,rfl⟩;rw [Qrl (z:=(Jkp C:Int)) om,Qrl om];congr 1;omega
theorem Qqc(x:Nat)(hx:x<4294967296)(w:World): Ret Tryz.prog 163 [.int .u32 (x:Int)] w λv w'=>v=.int .i64 (Jkp x:Int)/\w'=w:=by
 refine Jjc Tryz.func163 Tryz.ntmps163 rfl kr rfl ?_;refine ρ ?_;refine Jhn (fun (y s:Nat)=>[(0,.int .u32 (y:Int)),(2,.int .i64 (s:Int))]) (λy s w'=>w'=w/\Jkp x=s+Jkp y/\y<65536/\s<=16) ?_ ?_
 .refine ci (λh=>?_) (λh=>?_)
  .have o:=oT h;refine ρ ?_;refine Qdw rfl rfl (by decide) rfl ?_;refine kv 6 (u:=.int .u32 ((x / 2^16:Nat):Int)) (congrArg (Value.int .u32) (Jhz x 16 32)) ?_;refine ρ ?_;have e:=Jvk (x:=x) (k:=16) om;exact Jzz (x / 2^16) 16 sO ⟨rfl,e,om,om⟩
  .have o:=oF h;refine ρ ?_;exact Jzz x 0 sO ⟨rfl,om,om,om⟩
 rintro i C w ⟨rfl,U,b0,c0⟩;refine ρ ?_;refine Jhn (fun (y s:Nat)=>[(0,.int .u32 (y:Int)),(2,.int .i64 (s:Int))]) (λy s w'=>w'=w/\Jkp x=s+Jkp y/\y<256/\s<=24) ?_ ?_
 .refine ci (λh=>?_) (λh=>?_)
  .have o:=oT h;refine ρ ?_;refine Qdw rfl rfl (by decide) rfl ?_;refine kv 10 (u:=.int .u32 ((i / 2^8:Nat):Int)) (congrArg (Value.int .u32) (Jhz i 8 32)) ?_;refine ρ ?_;have e:=Jvk (x:=i) (k:=8) om;exact Jzz (i / 2^8) (C+8) sO ⟨rfl,om,om,om⟩
  .have o:=oF h;refine ρ ?_;exact Jzz i C sO ⟨rfl,om,om,om⟩
 rintro j J w ⟨rfl,O,G,Z⟩;refine ρ ?_;refine Qfk Qfw j rfl rfl rfl rfl ?_ ?_ rfl ?_
 .rw [IntKind.wrap_u8];omega
 .exact nM G (by decide)
 refine kv 16 (u:=.int .u8 (Jkp j:Int)) (congrArg (λz:Nat=>Value.int .u8 (z:Int)) (tabB _ kr G)) ?_;have:=Jfq (x:=j) (k:=8) om;refine ρ ?_;refine Jjq ⟨?_,rfl⟩;rw [Qrl (z:=(Jkp j:Int)) om,Qrl om];congr 1;omega
theorem Jnj(x:Nat)(h:x<18446744073709551616)(w:World): Ret Tryz.prog 151 [.int .u64 (x:Int)] w λv w'=>v=.int .i64 (Jkp x:Int)/\w'=w:=by
 refine Jjc Tryz.func151 Tryz.ntmps151 rfl kr rfl ?_;refine ρ ?_;refine cl (Qlc x h w) ?_;rintro v w' ⟨rfl,rfl⟩;refine ρ ?_;exact Jjq ⟨rfl,rfl⟩
end Go.Proofs.YtefpailelagbkaaGreatDoor
namespace Go.Proofs.YtefpailelagbkaaGreatDoor
section
variable {α:Type} (z:α)
def swp(q:List α)(i j:Nat): List α:=(q.set i (q.getD j z)).set j (q.getD i z)
theorem Xqg(q:List α)(i j:Nat): (swp z q i j).length=q.length:=by simp [swp]
theorem Jbj(q:List α)(i k:Nat)(x:α)(hi:i<q.length): (q.set i x).getD k z=if k=i then x else q.getD k z:=by
 simp only [List.getD,List.getElem?_set];by_cases h:i=k
 .subst h;simp [hi]
 .rw [if_neg h,if_neg (Ne.symm h)]
theorem Qgh(q:List α){i j:Nat}(hi:i<q.length)(hj:j<q.length)(k:Nat): (swp z q i j).getD k z=if k=j then q.getD i z else if k=i then q.getD j z else q.getD k z:=by
 unfold swp;rw [Jbj z _ _ _ _ (by simpa using hj),Jbj z _ _ _ _ hi]
theorem Jjh(q:List α){i:Nat}(h:i<q.length): q.getD i z=q[i]:=by simp [List.getD,List.getElem?_eq_getElem h]
theorem Qwp(q:List α){i j:Nat}(hi:i<q.length)(hj:j<q.length): (swp z q i j).Perm q:=by
 unfold swp;rw [Jjh z q hi,Jjh z q hj];exact List.set_set_perm hi hj
theorem getD_mem'(q:List α){i:Nat}(h:i<q.length): q.getD i z∈q:=by rw [Jjh z q h];exact List.getElem_mem h
structure Seg(a b:Nat)(q q':List α): Prop where
 perm:q'.Perm q
 lo:∀ k,k<a->q'.getD k z=q.getD k z
 hi:∀ k,b<=k->q'.getD k z=q.getD k z
variable {z}
theorem Seg.len{a b:Nat}{q q':List α}(h:Seg z a b q q'): q'.length=q.length:=h.perm.length_eq
theorem Seg.refl(a b:Nat)(q:List α): Seg z a b q q:=⟨List.Perm.refl _,λ_ _=>rfl,λ_ _=>rfl⟩
theorem Seg.trans{a b:Nat}{q q' q'':List α}(h:Seg z a b q q')(k:Seg z a b q' q''): Seg z a b q q'' :=
 ⟨k.perm.trans h.perm,λi hi=>(k.lo i hi).trans (h.lo i hi),λi hi=>(k.hi i hi).trans (h.hi i hi)⟩
theorem Seg.swp{a b i j:Nat}{q:List α}(h1:a<=i)(h2:i<b)(h3:a<=j)(h4:j<b)(hb:b<=q.length): Seg z a b q (swp z q i j) :=
 ⟨Qwp z q om om,λk o=>by rw [Qgh z q om om,if_neg om,if_neg om],λk o=>by rw [Qgh z q om om,if_neg om,if_neg om]⟩
theorem getD_take(q:List α)(a k:Nat)(h:k<a): (q.take a).getD k z=q.getD k z:=by simp [List.getD,h]
end
section
variable {α:Type} (z:α) (f:α->α->Int)
def SOn(q:List α)(a b:Nat): Prop:=∀ i j,a<=i->i<j->j<b->f (q.getD i z) (q.getD j z)<=0
variable {z f}
theorem SOn.mono{q:List α}{a b a' b':Nat}(h:SOn z f q a b)(h1:a<=a')(h2:b'<=b): SOn z f q a' b':=λi j hi o u=>h i j om o om
theorem SOn.one(q:List α){a b:Nat}(h:b<=a+1): SOn z f q a b:=λi j hi o u=>by omega
def InsI(z:α)(f:α->α->Int)(q:List α)(a i j:Nat): Prop:=a<=j/\j<=i/\(∀ k m,a<=k->k<m->m<=i->k≠j->m≠j->f (q.getD k z) (q.getD m z)<=0)/\(∀ m,j<m->m<=i->f (q.getD j z) (q.getD m z)<=0)
theorem InsI.start{q:List α}{a i:Nat}(h:SOn z f q a i)(hi:a<=i): InsI z f q a i i :=
 ⟨hi,Nat.le_refl _,λk m o j G C u=>h k m o j om,λm o j=>om⟩
theorem InsI.step{q:List α}{a i j:Nat}(h:InsI z f q a i j)(hj:a<j)(hi:i<q.length)(hlt:f (q.getD j z) (q.getD (j-1) z)<0): InsI z f (swp z q j (j-1)) a i (j-1):=by
 obtain ⟨h1,Z,C,U⟩:=h;have s:=λk=>Qgh z q (i:=j) (j:=j-1) om om k;refine ⟨om,om,λk m u o G O J=>?_,λm u o=>?_⟩
 .rw [s,s,if_neg O,if_neg J];by_cases e:k=j
  .subst e;rw [if_pos rfl,if_neg om];exact C (k-1) m om om G om om
  .rw [if_neg e];by_cases e2:m=j
   .subst e2;rw [if_pos rfl];exact C k (m-1) u om om e om
   .rw [if_neg e2];exact C k m u o G e e2
 .rw [s,s,if_pos rfl,if_neg om];by_cases e2:m=j
  .rw [if_pos e2];omega
  .rw [if_neg e2];exact U m om o
theorem InsI.done0{q:List α}{a i:Nat}(h:InsI z f q a i a): SOn z f q a (i+1):=by
 obtain ⟨O,J,C,u⟩:=h;intro k m o j G;by_cases e:k=a
 .subst e;exact u m j om
 .exact C k m o j om e om
theorem InsI.done{q:List α}{a i j:Nat}(hf:PreC f)(h:InsI z f q a i j)(hj:a<j)(hge:¬ f (q.getD j z) (q.getD (j-1) z)<0): SOn z f q a (i+1):=by
 obtain ⟨Z,U,G,J⟩:=h;have o:f (q.getD (j-1) z) (q.getD j z)<=0:=by have:=hf.anti (q.getD j z) (q.getD (j-1) z);omega
 intro k m C u O;by_cases e:k=j
 .subst e;exact J m u om
 .by_cases e2:m=j
  .subst e2;by_cases e3:k=m-1
   .rw [e3];exact o
   .exact hf.trans _ _ _ (G k (m-1) C om om e om) o
  .exact G k m C u om e e2
end
open Go.RowKit Pl Go.Wk
attribute [local irreducible] WC WL QX WD WDB WP
abbrev Pr:= Value×List V
def z0: Pr:=(undef,[])
def Dat(w:World)(base:Nat)(v:Value)(ps:List Pr): Prop:=w.ownsRow base 40 1 v ps.length (ps.map (·.1))/\∀ p∈ps,p.1.oneCell'=true
theorem Dat.ext{w w':World}{base:Nat}{v:Value}{ps:List Pr}(h:Dat w base v ps)(hx:Ext w w'): Dat w' base v ps:=⟨Jjb h.1 hx,h.2⟩
theorem Dat.rd{w:World}{base:Nat}{A:Option Addr}{n c:Nat}{ps:List Pr}(h:Dat w base (.slice A n c) ps)(hn:ps.length=n): Rd w 1 A n (ps.map (·.1)):=by
 have:=h.1;rw [hn]at this;exact Rd.own this
theorem Jll{ps:List Pr}{i:Nat}(h:i<ps.length): (ps.map (·.1))[i]?=some (ps.getD i z0).1:=by simp [List.getD,List.getElem?_eq_getElem h]
theorem Dat.cell{w:World}{base:Nat}{A:Option Addr}{n c:Nat}{ps:List Pr}(h:Dat w base (.slice A n c) ps)(hn:ps.length=n){i:Nat}(hi:i<n): w.cell? (adr A i)=some (ps.getD i z0).1 :=
 (h.rd hn).cell (Jll om)
theorem Dat.one{w:World}{base:Nat}{v:Value}{ps:List Pr}(h:Dat w base v ps){i:Nat}(hi:i<ps.length): (ps.getD i z0).1.oneCell'=true:=h.2 _ (getD_mem' z0 ps hi)
theorem Dat.store{w:World}{base:Nat}{A:Option Addr}{n c:Nat}{ps:List Pr}(h:Dat w base (.slice A n c) ps)(hn:ps.length=n){i:Nat}(hi:i<n){p:Pr}(hp:p.1.oneCell'=true):
  w.frozen? (adr A i)=false/\Dat (w.setCell (adr A i) p.1) base (.slice A n c) (ps.set i p)/\w.grownBy (w.setCell (adr A i) p.1) (Value.slice A n c).ownBlock:=by
 have j:=h.1;rw [hn]at j;obtain ⟨O,C,u,J,o⟩:=Jqm j (q:=i) om p.1;refine ⟨C,⟨?_,λq G=>?_⟩,o⟩
 .rw [List.length_set,hn,List.map_set];exact u
 .rcases List.mem_or_eq_of_mem_set G with h'|h'
  .exact h.2 q h'
  .rw [h'];exact hp
theorem Dat.swap{w:World}{base:Nat}{A:Option Addr}{n c:Nat}{ps:List Pr}(h:Dat w base (.slice A n c) ps)(hn:ps.length=n){i j:Nat}(hi:i<n)(hj:j<n):
  w.frozen? (adr A i)=false/\Rd (w.setCell (adr A i) (ps.getD j z0).1) 1 A n ((ps.set i (ps.getD j z0)).map (·.1))/\(w.setCell (adr A i) (ps.getD j z0).1).frozen? (adr A j)=false /\
  (∃ u,(w.setCell (adr A i) (ps.getD j z0).1).cell? (adr A j)=some u)/\Dat ((w.setCell (adr A i) (ps.getD j z0).1).setCell (adr A j) (ps.getD i z0).1) base (.slice A n c) (swp z0 ps i j) /\
  w.grownBy ((w.setCell (adr A i) (ps.getD j z0).1).setCell (adr A j) (ps.getD i z0).1) (Value.slice A n c).ownBlock:=by
 obtain ⟨Z,C,U⟩:=h.store hn hi (p:=ps.getD j z0) (h.one om);have o:(ps.set i (ps.getD j z0)).length=n:=by simp [hn]
 obtain ⟨O,J,G⟩:=C.store o hj (p:=ps.getD i z0) (h.one om);exact ⟨Z,C.rd o,O,⟨_,C.cell o hj⟩,J,Jjw U G⟩
def fP(ds:List Bool)(p q:Pr): Int:=Jxg p.2 q.2 ds
theorem preP(ds:List Bool): PreC (fP ds):=(Jtd ds).pre (β:=Pr) (λp=>p.2)
def CmpF(w:World)(row:Option Nat)(fv:Value)(M:List Pr)(ds:List Bool): Prop:=∃ fid first cap,fv=.func (.func fid) first cap /\
 ∀ w',w.grownBy w' row->∀ p q,p∈M->q∈M->Ret Tryz.prog fid (first.toList++[p.1,q.1]++cap.toList) w' λr w''=>r=.int .i64 (fP ds p q)/\Ext w' w''
theorem Jdj{w:World}{base:Nat}{A:Option Addr}{n c a b:Nat}{ai bi:Int}{fv:Value}{ps:List Pr}{ds:List Bool}(hD:Dat w base (.slice A n c) ps)(hn:ps.length=n)(hai:ai=(a:Int))(hbi:bi=(b:Int))(hb:b<=n)(ha:a<=n)(hmx:n<=140737488355328)(hC:CmpF w (Value.slice A n c).ownBlock fv ps ds):
  Ret Tryz.prog 166 [.slice A n c,.int .i64 ai,.int .i64 bi,fv] w λv w'=>∃ ps',Dat w' base (.slice A n c) ps'/\Seg z0 a b ps ps'/\SOn z0 (fP ds) ps' a b/\w.grownBy w' (Value.slice A n c).ownBlock:=by
 subst hai;subst hbi;obtain ⟨ab,first,ac,rfl,hC⟩:=hC;refine Jjc Tryz.func166 Tryz.ntmps166 rfl kr rfl ?_;refine ρ ?_;refine Jjt (fun (i:Nat) (q:List Pr)=>[(0,.slice A n c),(1,.int .i64 (a:Int)),(2,.int .i64 (b:Int)),(3,.func (.func ab) first ac),(8,.int .i64 ((i:Nat):Int))])
  (λi q w'=>a+1<=i/\(i<=b∨i=a+1)/\Seg z0 a b ps q/\SOn z0 (fP ds) q a i/\Dat w' base (.slice A n c) q/\w.grownBy w' (Value.slice A n c).ownBlock) (λi _=>b+1-i) (a+1) ps sO
  ⟨Nat.le_refl _,.inr rfl,Seg.refl _ _ _,SOn.one _ om,hD,Jqh (Ext.refl w) _⟩ ?_
 rintro i q w1 ⟨hai,ag,a7,a8,aa,a6⟩;refine ρ ?_;refine ci (λh=>?_) (λh=>?_)
 .have af:i<b:=by have:=oT h;omega
  refine ρ ?_;refine Jjt (fun (j:Nat) (q:List Pr)=>[(0,.slice A n c),(1,.int .i64 (a:Int)),(2,.int .i64 (b:Int)),(3,.func (.func ab) first ac),(8,.int .i64 ((i:Nat):Int)),(9,.int .i64 ((j:Nat):Int))])
   (λj q w'=>InsI z0 (fP ds) q a i j/\Seg z0 a b ps q/\Dat w' base (.slice A n c) q/\w.grownBy w' (Value.slice A n c).ownBlock) (λj _=>j) i q sB ⟨InsI.start a8 om,a7,aa,a6⟩ ?_
  rintro j q w2 ⟨hI,J,ae,ad⟩;have o:q.length=n:=by rw [J.len,hn]
  obtain ⟨h1,h2,_,_⟩:=id hI;refine ρ ?_;refine dr [(0,0),(0,1),(0,2),(0,3),(0,4),(0,5),(0,6),(0,7),(0,8),(0,9),(0,10),(0,11),(0,12),(0,13),(1,14),(0,15),(0,16)] kr ?_;have a4:Ext w2 w2.drew:=(Ext.refl w2).drew;have O:=ae.ext a4;have a2:=Jjw ad (Jqh a4 _);refine ρd ?_;refine dki 21 (λh=>?_) (λh=>?_)
  .have hj:a<j:=by have:=oT h;omega
   have Z:j<n:=om
   have G:j-1<n:=om
   refine ρd ?_;refine dix j (O.rd o) Z ?_;refine ρd ?_;refine dld (O.cell o Z) ?_;refine ρd ?_;refine dix (j-1) (O.rd o) G ?_;refine ρd ?_;refine dld (O.cell o G) ?_;refine ρd ?_;refine Qqv (hC _ a2 (q.getD j z0) (q.getD (j-1) z0) (J.perm.mem_iff.1 (getD_mem' z0 q om)) (J.perm.mem_iff.1 (getD_mem' z0 q om))) ?_;rintro r w4 ⟨rfl,a1⟩;refine ⟨a1,?_⟩;have a9:=O.ext a1;have a5:=Jjw a2 (Jqh a1 _);refine ρd ?_;refine ρ ?_;refine ci (λh=>?_) (λh=>?_)
   .have U:=oT h;refine ρ ?_;refine drC 4 [0,1,2,3,4,5,6,7,10,11] [(0,8),(0,9),(0,12),(0,13),(0,14),(2,15),(2,16),(2,17)] kr ?_;have a3:Ext w4 w4.drew:=(Ext.refl w4).drew;have C:=a9.ext a3;obtain ⟨s1,s2,s3,⟨u,s4⟩,s5,s6⟩:=C.swap o Z G;refine ρp ?_;refine dix (j-1) (C.rd o) G ?_;refine ρd ?_;refine dld (C.cell o G) ?_;refine ρd ?_;refine dix j (C.rd o) Z ?_;refine ρd ?_;refine dld (C.cell o Z) ?_;refine ρd ?_;refine dix j (C.rd o) Z ?_;refine ρd ?_;refine Jqz ?_;refine sto (C.cell o Z) s1 ?_ (hv:=C.one (o.symm ▸ G));refine ρ ?_;refine Jxt ?_;refine Jqz ?_;refine ix (j-1) s2 G ?_;refine ρ ?_;refine Jxt ?_;refine Jqz ?_;refine sto s4 s3 ?_ (hv:=C.one (o.symm ▸ Z));refine ρ ?_;exact Jjj (j-1) (swp z0 q j (j-1)) sO ⟨hI.step hj om U,J.trans (Seg.swp om om om om om),s5,Jjw a5 (Jjw (Jqh a3 _) s6)⟩ om
   .have U:=oF h;refine ρ ?_;exact Jjj (i+1) q sB ⟨om,om,J,hI.done (preP ds) hj U,a9,a5⟩ om
  .have hj:j=a:=by have:=oF h;omega
   subst hj;refine ρd ?_;refine ρ ?_;exact Jjj (i+1) q sB ⟨om,om,J,hI.done0,O,a2⟩ om
 .refine ρ ?_;have hbi:b<=i:=by have:=oF h;omega
  exact Qls ⟨q,aa,a7,a8.mono (Nat.le_refl _) hbi,a6⟩
end Go.Proofs.YtefpailelagbkaaGreatDoor
