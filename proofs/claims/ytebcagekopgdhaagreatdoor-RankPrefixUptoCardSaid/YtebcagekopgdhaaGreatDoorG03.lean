/- Part 3. -/
import Derived.Test.YtebcagekopgdhaaGreatDoorG02
import Derived.Sort.AssemblyPlain
import Derived.Laws.Bits64b
set_option linter.unusedVariables false
set_option maxRecDepth 100000
set_option maxHeartbeats 40000000
namespace Go.Proofs.YtebcagekopgdhaaGreatDoor
open Pl
variable {α β:Type}
structure PreC{α:Type}(f:α->α->Int): Prop where
 anti:∀ a b,f b a = - f a b
 trans:∀ a b c,f a b<=0->f b c<=0->f a c<=0
theorem PreC.refl{f:α->α->Int}(h:PreC f)(a:α): f a a=0:=by have:=h.anti a a;omega
structure Cmp{α:Type}(f:α->α->Int): Prop where
 anti:∀ a b,f b a = - f a b
 zero:∀ a b,f a b=0->a=b
 trans:∀ a b c,f a b<=0->f b c<=0->f a c<=0
theorem Cmp.pre{f:α->α->Int}(h:Cmp f)(g:β->α): PreC λa b=>f (g a) (g b):=⟨λa b=>h.anti _ _,λa b c=>h.trans _ _ _⟩
section
variable {α:Type} {f:α->α->Int}
theorem Cmp.refl(h:Cmp f)(a:α): f a a=0:=by have:=h.anti a a;omega
theorem Cmp.lt_le(h:Cmp f){a b c:α}(h1:f a b<0)(h2:f b c<=0): f a c<0:=by
 have o:=h.trans a b c om h2;rcases Int.lt_or_eq_of_le o with h4|h4
 .exact h4
 .have:=h.zero _ _ h4;subst this;have:=h.anti a b;omega
theorem Cmp.le_lt(h:Cmp f){a b c:α}(h1:f a b<=0)(h2:f b c<0): f a c<0:=by
 have o:=h.trans a b c h1 om;rcases Int.lt_or_eq_of_le o with h4|h4
 .exact h4
 .have:=h.zero _ _ h4;subst this;have:=h.anti a b;omega
theorem Cmp.lt_trans(h:Cmp f){a b c:α}(h1:f a b<0)(h2:f b c<0): f a c<0:=h.lt_le h1 om
theorem Cmp.tot(h:Cmp f)(a b:α): f a b<0∨a=b∨f b a<0:=by
 have o:=h.anti a b;rcases Int.lt_trichotomy (f a b) 0 with h2|h2|h2
 .exact .inl h2
 .exact .inr (.inl (h.zero _ _ h2))
 .exact .inr (.inr om)
theorem Cmp.flip(h:Cmp f): Cmp λa b=>- f a b :=
 ⟨λa b=>by rw [h.anti a b],λa b h0=>h.zero a b om,λa b c u o=>by
  have J:=h.anti a b;have G:=h.anti b c;have C:=h.anti a c;have:=h.trans c b a om om;omega⟩
end
theorem cmp_sgn: Cmp sgn:=by
 refine ⟨λa b=>?_,λa b h=>?_,λa b c u o=>?_⟩
 .unfold sgn;split<;>split<;>omega
 .unfold sgn at h;split at h
  .omega
  .split at h<;>omega
 .unfold sgn at *;by_cases e1:a<b<;>by_cases e2:b<a<;>by_cases e3:b<c<;>by_cases e4:c<b<;>by_cases e5:a<c<;>by_cases e6:c<a<;>simp_all<;>omega
theorem Jpr(a b:Int): sgn a b = -1∨sgn a b=0∨sgn a b=1:=by
 unfold sgn;split
 .simp
 .split<;>simp
theorem Qzn: ∀ x y:List UInt8,Lib.compareBytes y x = - Lib.compareBytes x y
 | [],[]=>rfl
 | [],_::_=>rfl
 | _::_,[]=>rfl
 | a::x,b::y=>by
  simp only [Lib.compareBytes];have ih:=Qzn x y;simp only [UInt8.lt_iff_toNat_lt];by_cases h:a.toNat<b.toNat
  .rw [if_pos h,if_neg om,if_pos h];rfl
  .rw [if_neg h];by_cases h2:b.toNat<a.toNat
   .rw [if_pos h2,if_neg h,if_pos h2]
   .rw [if_neg h2,if_neg h,if_neg h2];exact ih
theorem Qzk: ∀ x y:List UInt8,Lib.compareBytes x y=0->x=y
 | [],[],_=>rfl
 | [],_::_,h=>by simp [Lib.compareBytes]at h
 | _::_,[],h=>by simp [Lib.compareBytes]at h
 | a::x,b::y,h=>by
  simp only [Lib.compareBytes,UInt8.lt_iff_toNat_lt]at h;split at h
  .cases h
  .split at h
   .cases h
   .rw [Qzk x y h,UInt8.toNat_inj.1 (show a.toNat=b.toNat by omega)]
theorem Qzl: ∀ x y z:List UInt8,Lib.compareBytes x y<=0->Lib.compareBytes y z<=0->Lib.compareBytes x z<=0
 | [],_,[],_,_=>by simp [Lib.compareBytes]
 | [],_,_::_,_,_=>by simp [Lib.compareBytes]
 | _::_,[],_,h,_=>by simp [Lib.compareBytes]at h
 | _::_,_::_,[],_,h=>by simp [Lib.compareBytes]at h
 | a::x,b::y,c::z,h1,h2=>by
  simp only [Lib.compareBytes,UInt8.lt_iff_toNat_lt]at *;split at h1
  .split at h2
   .rw [if_pos om];decide
   .split at h2
    .exact absurd h2 (by decide)
    .rw [if_pos om];decide
  .split at h1
   .exact absurd h1 (by decide)
   .split at h2
    .rw [if_pos om];decide
    .split at h2
     .exact absurd h2 (by decide)
     .rw [if_neg om,if_neg om];exact Qzl x y z h1 h2
theorem cb_3: ∀ x y:List UInt8,Lib.compareBytes x y = -1∨Lib.compareBytes x y=0∨Lib.compareBytes x y=1
 | [],[]=>by simp [Lib.compareBytes]
 | [],_::_=>by simp [Lib.compareBytes]
 | _::_,[]=>by simp [Lib.compareBytes]
 | a::x,b::y=>by
  simp only [Lib.compareBytes];split
  .simp
  .split
   .simp
   .exact cb_3 x y
theorem V.ext{a b:V}(h1:a.kind=b.kind)(h2:a.num=b.num)(h3:a.bytes=b.bytes): a=b:=by
 obtain ⟨k,n,s⟩:=a;obtain ⟨C,u,o⟩:=b;simp only [V.bytes]at *;obtain ⟨d⟩:=s;obtain ⟨G⟩:=o;simp only at h1 h2 h3;rw [h1,h2,Array.toList_inj.1 h3]
theorem Jvm{a b:Int}(h:a≠b): sgn a b≠0:=λe=>h (cmp_sgn.zero _ _ e)
theorem Qxt(a b:V): cmpV a b = -1∨cmpV a b=0∨cmpV a b=1:=by
 unfold cmpV;split
 .exact Jpr _ _
 .split
  .exact Jpr _ _
  .exact cb_3 _ _
theorem cmp_V: Cmp cmpV:=by
 refine ⟨λa b=>?_,λa b h=>?_,λa b c u o=>?_⟩
 .unfold cmpV;by_cases h:a.kind=b.kind
  .rw [if_neg (not_not_intro h),if_neg (not_not_intro h.symm)];by_cases o:a.num=b.num
   .rw [if_neg (not_not_intro o),if_neg (not_not_intro o.symm)];exact Qzn _ _
   .rw [if_pos o,if_pos (Ne.symm o)];exact cmp_sgn.anti _ _
  .rw [if_pos h,if_pos (Ne.symm h)];exact cmp_sgn.anti _ _
 .unfold cmpV at h;split at h
  .rename_i u;exact absurd h (Jvm u)
  .rename_i u;split at h
   .rename_i o;exact absurd h (Jvm o)
   .rename_i o;exact V.ext (by simpa using u) (by simpa using o) (Qzk _ _ h)
 .unfold cmpV at *;by_cases k1:a.kind=b.kind<;>by_cases k2:b.kind=c.kind
  .have J:a.kind=c.kind:=k1.trans k2;rw [if_neg (by simp [k1])]at u;rw [if_neg (by simp [k2])]at o;rw [if_neg (by simp [J])];by_cases n1:a.num=b.num<;>by_cases n2:b.num=c.num
   .rw [if_neg (by simp [n1])]at u;rw [if_neg (by simp [n2])]at o;rw [if_neg (by simp [n1,n2])];exact Qzl _ _ _ u o
   .rw [if_pos n2]at o;rw [n1,if_pos n2];exact o
   .rw [if_pos n1]at u;rw [<-n2,if_pos n1];exact u
   .rw [if_pos n1]at u;rw [if_pos n2]at o;have G:=cmp_sgn.lt_le (a:=a.num) (c:=c.num) (by have:=Jvm n1;omega) o;have C:a.num≠c.num:=by intro e;rw [e,cmp_sgn.refl]at G;omega
    rw [if_pos C];omega
  .rw [if_pos k2]at o;rw [k1,if_pos k2];exact o
  .rw [if_pos k1]at u;rw [<-k2,if_pos k1];exact u
  .rw [if_pos k1]at u;rw [if_pos k2]at o;have G:=cmp_sgn.lt_le (a:=a.kind) (c:=c.kind) (by have:=Jvm k1;omega) o;have C:a.kind≠c.kind:=by intro e;rw [e,cmp_sgn.refl]at G;omega
   rw [if_pos C];omega
theorem Xe(a:V): cmpV a a=0:=cmp_V.refl a
theorem Jtd(d:Bool): neg d 0=0:=by cases d<;>rfl
theorem Jwj(d:Bool): Cmp λa b=>neg d (cmpV a b):=by
 cases d
 .exact cmp_V
 .exact cmp_V.flip
theorem Jwk: ∀ (a b:List V) (ds:List Bool),Jw b a ds = - Jw a b ds
 | [],[],_=>rfl
 | [],_::_,_=>rfl
 | _::_,[],_=>rfl
 | x::a,y::b,ds=>by
  simp only [Jw];have h:=cmp_V.anti x y;by_cases e:cmpV x y=0
  .rw [if_pos e,if_pos om];exact Jwk a b _
  .rw [if_neg e,if_neg om];exact (Jwj _).anti x y
theorem Jzd: ∀ (a b:List V) (ds:List Bool),Jw a b ds=0->a=b
 | [],[],_,_=>rfl
 | [],_::_,_,h=>by simp [Jw]at h
 | _::_,[],_,h=>by simp [Jw]at h
 | x::a,y::b,ds,h=>by
  simp only [Jw]at h;split at h
  .rename_i e;rw [cmp_V.zero _ _ e,Jzd a b _ h]
  .rename_i e;exact absurd (congrArg (cmpV x) ((Jwj _).zero x y h)) (by rw [Xe];intro e2;exact e e2.symm)
theorem Jbl: ∀ (a b c:List V) (ds:List Bool),Jw a b ds<=0->Jw b c ds<=0->Jw a c ds<=0
 | [],_,[],_,_,_=>by simp [Jw]
 | [],_,_::_,_,_,_=>by simp [Jw]
 | _::_,[],_,_,h,_=>by simp [Jw]at h
 | _::_,_::_,[],_,_,h=>by simp [Jw]at h
 | x::a,y::b,z::c,ds,h1,h2=>by
  simp only [Jw]at *;have N:=Jwj (ds.getD 0 false);by_cases e1:cmpV x y=0
  .rw [if_pos e1]at h1;rw [cmp_V.zero _ _ e1];by_cases e2:cmpV y z=0
   .rw [if_pos e2]at h2 ⊢;exact Jbl a b c _ h1 h2
   .rw [if_neg e2]at h2 ⊢;exact h2
  .rw [if_neg e1]at h1;by_cases e2:cmpV y z=0
   .rw [<-cmp_V.zero _ _ e2,if_neg e1];exact h1
   .rw [if_neg e2]at h2;have hne:neg (ds.getD 0 false) (cmpV x y)≠0:=λe=>e1 (by have:=N.zero x y e;rw [this];exact Xe y);have h3:=N.lt_le (a:=x) (b:=y) (c:=z) om h2;have e3:cmpV x z≠0:=by intro e;simp only [e,Jtd]at h3;omega
    rw [if_neg e3];omega
theorem Gz(ds:List Bool): Cmp λa b=>Jw a b ds:=⟨λa b=>Jwk a b ds,λa b h=>Jzd a b ds h,λa b c u o=>Jbl a b c ds u o⟩
theorem Va(a:List V)(ds:List Bool): Jw a a ds=0:=(Gz ds).refl a
open Go.RowKit Pl Go.Wk
attribute [local irreducible] WC WL QX WD WDB
variable {ds:List Bool}{a b:List V}{k:Nat}{va vb vd:Value}{w:World}
def RowV(w:World)(v:Value)(r:List V): Prop:=∃ A c,v=.slice A r.length c/\r.length<=c/\r.length<=1100000/\RdR w A r
def BoolsV(w:World)(v:Value)(ds:List Bool): Prop:=∃ A c,v=.slice A ds.length c/\ds.length<=c/\ds.length<=1100000/\RdB w A ds
theorem RowV.ext{w w':World}{v:Value}{r:List V}(h:RowV w v r)(hx:Ext w w'): RowV w' v r:=by
 obtain ⟨A,c,G,C,u,o⟩:=h;exact ⟨A,c,G,C,u,o.ext hx⟩
theorem BoolsV.ext{w w':World}{v:Value}{r:List Bool}(h:BoolsV w v r)(hx:Ext w w'): BoolsV w' v r:=by
 obtain ⟨A,c,G,C,u,o⟩:=h;exact ⟨A,c,G,C,u,o.ext hx⟩
theorem RowV.nil(w:World)(A:Option Addr)(c:Nat): RowV w (.slice A 0 c) []:=⟨A,c,rfl,by simp,by simp,Rd.nil⟩
theorem BoolsV.nil(w:World)(A:Option Addr)(c:Nat): BoolsV w (.slice A 0 c) []:=⟨A,c,rfl,by simp,by simp,Rd.nil⟩
theorem Qzc(ha:k<a.length)(hb:k<b.length): Jw (a.drop k) (b.drop k) (ds.drop k) =
  if cmpV (a.getD k V0) (b.getD k V0)=0 then Jw (a.drop (k+1)) (b.drop (k+1)) (ds.drop (k+1)) else neg (ds.getD k false) (cmpV (a.getD k V0) (b.getD k V0)):=by
 rw [List.drop_eq_getElem_cons ha,List.drop_eq_getElem_cons hb,Jw];have C:a.getD k V0=a[k]:=by simp [List.getD,List.getElem?_eq_getElem ha]
 have u:b.getD k V0=b[k]:=by simp [List.getD,List.getElem?_eq_getElem hb]
 have o:(ds.drop k).getD 0 false=ds.getD k false:=by simp [List.getD,List.getElem?_drop]
 rw [C,u,o,List.drop_drop]
theorem Qxz(hk:a.length<=k∨b.length<=k)(hka:k<=a.length)(hkb:k<=b.length): Jw (a.drop k) (b.drop k) (ds.drop k)=if a.length<b.length then -1 else if b.length<a.length then 1 else 0:=by
 rcases Nat.lt_trichotomy a.length b.length with h|h|h
 .rw [if_pos h,List.drop_of_length_le (by omega:a.length<=k),List.drop_eq_getElem_cons (by omega:k<b.length)];rfl
 .rw [if_neg om,if_neg om,List.drop_of_length_le (by omega:a.length<=k),List.drop_of_length_le (by omega:b.length<=k)];rfl
 .rw [if_neg om,if_pos h,List.drop_of_length_le (by omega:b.length<=k),List.drop_eq_getElem_cons (by omega:k<a.length)];rfl
theorem Jlw(a b:V): IntKind.i64.wrap (0-cmpV a b)=neg true (cmpV a b):=by
 rcases Qxt a b with h|h|h<;>rw [h]<;>rfl
theorem Qht(n m:Nat): (if (m:Int)<(n:Int) then (m:Int) else (n:Int))=((min n m:Nat):Int):=by split<;>omega
theorem Qpw(ha:RowV w va a)(hb:RowV w vb b)(hd:BoolsV w vd ds):
  Ret Tryz.prog 51 [va,vb,vd] w λr w'=>r=.int .i64 (Jw a b ds)/\Ext w w':=by
 obtain ⟨A,ac,rfl,ak,aj,ha⟩:=ha;obtain ⟨B,bc,rfl,ai,ah,hb⟩:=hb;obtain ⟨D,dc,rfl,af,ae,hd⟩:=hd;refine Jz Tryz.func51 Tryz.ntmps51 rfl kr rfl ?_;refine ρ ?_;rw [Qht];refine Qh (λk=>[(0,.slice A a.length ac),(1,.slice B b.length bc),(2,.slice D ds.length dc),(13,.int .i64 ((min a.length b.length:Nat):Int)),(14,.int .i64 ((k:Nat):Int))])
  (λk w'=>Ext w w'/\k<=a.length/\k<=b.length/\Jw a b ds=Jw (a.drop k) (b.drop k) (ds.drop k)) (λk=>a.length-k) 0 sB ⟨Ext.refl w,Nat.zero_le _,Nat.zero_le _,rfl⟩ ?_
 rintro k w1 ⟨J,a9,a8,he⟩;have ab:=ha.ext J;have aa:=hb.ext J;have ag:=hd.ext J;refine ρ ?_;have a7:(a.length<=k∨b.length<=k)->Jw a b ds=if a.length<b.length then -1 else if b.length<a.length then 1 else 0:=λh=>by rw [he,Qxz h a9 a8]
 refine ci (λh=>?_) (λh=>?_)
 .have ad:k<min a.length b.length:=by have:=oT h;omega
  have Z:k<a.length:=om
  have U:k<b.length:=om
  refine ρ ?_;refine dr [(0,0),(0,1),(0,2),(0,3),(0,4),(0,5),(0,6),(0,7),(1,8),(0,9)] kr ?_;have G:Ext w1 w1.drew:=(Ext.refl w1).drew;have a6:=ab.ext G;have a5:=aa.ext G;refine ρd ?_;refine Kj 3 k a6 Z ?_;refine ρd ?_;refine Qw (λj u hu=>RdR.cell a6 Z hu) ?_;refine ρd ?_;refine Kj 3 k a5 U ?_;refine ρd ?_;refine Qw (λj u hu=>RdR.cell a5 U hu) ?_;refine ρd ?_;refine dcl (Jqg (a.getD k V0) (b.getD k V0) _) ?_;rintro x w2 ⟨rfl,a2⟩;refine ⟨a2,?_⟩;have o:Ext w w2:=(J.trans G).trans a2;have a4:=hd.ext o;refine ρd ?_;refine ρ ?_;have step:=Qzc (ds:=ds) Z U;refine ci (λh0=>?_) (λh0=>?_)
  .refine ρ ?_;refine Qv (k+1) sB ⟨o,om,om,?_⟩ om;rw [he,step,if_pos (Xd h0)]
  have O:=Xf h0;refine ρ ?_;refine ki 32 (λh=>?_) (λh=>?_)
  .have a3:k<ds.length:=by have:=oT h;omega
   refine ρ ?_;refine ix k a4 a3 ?_;refine ρ ?_;refine ld (RdB.cell a4 a3) ?_;refine ρ ?_;refine ci (λC=>?_) (λC=>?_)
   .refine ρ ?_;refine Jq ⟨?_,o⟩;rw [Jlw,he,step,C,if_neg O]
   .refine ρ ?_;refine Jq ⟨?_,o⟩;rw [he,step,C,if_neg O];rfl
  .have C:ds.getD k false=false:=by
    have:=oF h;simp [List.getD,List.getElem?_eq_none (show ds.length<=k by omega)]
   refine ρ ?_;refine Jq ⟨?_,o⟩;rw [he,step,C,if_neg O];rfl
 .have a1:=a7 (by have:=oF h;omega);refine ρ ?_;refine ci (λh=>?_) (λC=>?_)
  .refine ρ ?_;refine Jq ⟨?_,J⟩;rw [a1,if_pos (by have:=oT h;omega)]
  refine ρ ?_;refine ci (λh=>?_) (λh2=>?_)
  .refine ρ ?_;refine Jq ⟨?_,J⟩;rw [a1,if_neg (by have:=oF C;omega),if_pos (by have:=oT h;omega)]
  .refine ρ ?_;refine Jq ⟨?_,J⟩;rw [a1,if_neg (by have:=oF C;omega),if_neg (by have:=oF h2;omega)]
theorem Jrh(ha:RowV w va a)(hb:RowV w vb b):
  Ret Tryz.prog 121 [va,vb] w λr w'=>r=.int .i64 (Jw a b [])/\Ext w w':=by
 refine Jz Tryz.func121 Tryz.ntmps121 rfl kr rfl ?_;refine ρ ?_;refine cl (Qpw ha hb (BoolsV.nil w none 0)) ?_;rintro v u ⟨rfl,o⟩;refine ρ ?_;exact Jq ⟨rfl,o⟩
theorem Qrq(a b:List V)(ds:List Bool): (Jw a b ds == 0)=true↔a=b:=by
 constructor
 .intro h;exact Jzd _ _ _ (Xd h)
 .intro h;rw [h,Va];rfl
instance:DecidableEq V:=λa b=>if h:cmpV a b=0 then isTrue (cmp_V.zero _ _ h) else isFalse (λe=>h (by rw [e];exact Xe b))
theorem Qrp(a b:List V)(ds:List Bool): (Jw a b ds == 0)=decide (a=b):=by
 rw [Bool.eq_iff_iff,Qrq,decide_eq_true_iff]
theorem Jrg(ha:RowV w va a)(hb:RowV w vb b):
  Ret Tryz.prog 124 [va,vb] w λr w'=>r=.bool (decide (a=b))/\Ext w w':=by
 refine Jz Tryz.func124 Tryz.ntmps124 rfl kr rfl ?_;refine ρ ?_;refine cl (Jrh ha hb) ?_;rintro v u ⟨rfl,o⟩;refine ρ ?_;refine Jq ⟨?_,o⟩;rw [Qrp]
open Go.RowKit Pl Go.Wk
attribute [local irreducible] WP
variable {j k x:Nat}
def Ju(x:Nat): Nat:=if x=0 then 0 else Nat.log2 x+1
theorem Jgc: x<2^Ju x:=by
 unfold Ju;split
 .omega
 .exact Nat.lt_log2_self
theorem Qjg(h:x≠0): 0<Ju x/\2^(Ju x-1)<=x:=by
 unfold Ju;rw [if_neg h];exact ⟨om,by simpa using Nat.log2_self_le h⟩
theorem Jxp(h:x<2^k): Ju x<=k:=by
 unfold Ju;split
 .omega
 .rename_i h0;have:=(Nat.log2_lt h0).2 h;omega
theorem Qlp(h1:2^k<=x)(h2:x<2^(k+1)): Ju x=k+1:=by
 have u:=Jxp h2;have o:=Jgc (x:=x);rcases Nat.lt_or_ge (Ju x) (k+1) with h|h
 .have:=Nat.pow_le_pow_right (show 0<2 by omega) (show Ju x<=k by omega);omega
 .omega
theorem Jkn(h:2^k<=x): Ju x=k+Ju (x / 2^k):=by
 have o:0<2^k:=Nat.pow_pos om;have u:x / 2^k≠0:=by
  have:=(Nat.le_div_iff_mul_le o).2 (show 1*2^k<=x by omega);omega
 obtain ⟨a,b⟩:=Qjg u;have c:=Jgc (x:=x / 2^k);generalize Ju (x / 2^k)=m at *
 obtain ⟨m,rfl⟩:∃ j,m=j+1:=⟨m-1,om⟩;rw [Nat.add_sub_cancel]at b;have:=Qlp (x:=x) (k:=k+m) (by rw [Nat.pow_add];have:=(Nat.le_div_iff_mul_le o).1 b;rw [Nat.mul_comm];exact this) (by
  rw [show k+m+1=(m+1)+k by omega,Nat.pow_add];exact (Nat.div_lt_iff_lt_mul o).1 c)
 omega
theorem tabB(s:ByteArray)(h:((List.range 256).all λj=>(s.data.toList.getD j 0).toNat == Ju j)=true)(hj:j<256): (s.data.toList.getD j 0).toNat=Ju j:=by
 have:=List.all_eq_true.1 h j (List.mem_range.2 hj);simpa using this
theorem Jzw(y k m:Nat): ((y:Int)).fdiv (2^(min ((k:Nat):Int).toNat m))=((y / 2^(min k m):Nat):Int):=by
 rw [Int.toNat_natCast,Int.fdiv_eq_ediv_of_nonneg _ (Int.le_of_lt (Int.pow_pos om))];rw [Int.natCast_ediv];rfl
theorem Qlq(x:Nat)(hx:x<18446744073709551616)(w:World): Ret Tryz.prog 140 [.int .u64 (x:Int)] w λv w'=>v=.int .i64 (Ju x:Int)/\w'=w:=by
 refine Jz Tryz.func140 Tryz.ntmps140 rfl kr rfl ?_;refine ρ ?_;refine Ib (fun (y s:Nat)=>[(0,.int .u64 (y:Int)),(2,.int .i64 (s:Int))]) (λy s w'=>w'=w/\Ju x=s+Ju y/\y<4294967296/\s<=32) ?_ ?_
 .refine ci (λh=>?_) (λh=>?_)
  .have G:=oT h;refine ρ ?_;refine Yd rfl rfl (by decide) rfl ?_;refine kv 6 (u:=.int .u64 ((x / 2^32:Nat):Int)) (congrArg (Value.int .u64) (Jzw x 32 64)) ?_;refine ρ ?_;have e:=Jkn (x:=x) (k:=32) om;exact Zt (x / 2^32) 32 sO ⟨rfl,e,om,om⟩
  .have G:=oF h;refine ρ ?_;exact Zt x 0 sO ⟨rfl,om,om,om⟩
 rintro C U w ⟨rfl,e0,b0,c0⟩;refine ρ ?_;refine Ib (fun (y s:Nat)=>[(0,.int .u64 (y:Int)),(2,.int .i64 (s:Int))]) (λy s w'=>w'=w/\Ju x=s+Ju y/\y<65536/\s<=48) ?_ ?_
 .refine ci (λh=>?_) (λh=>?_)
  .have G:=oT h;refine ρ ?_;refine Yd rfl rfl (by decide) rfl ?_;refine kv 10 (u:=.int .u64 ((C / 2^16:Nat):Int)) (congrArg (Value.int .u64) (Jzw C 16 64)) ?_;refine ρ ?_;have e:=Jkn (x:=C) (k:=16) om;exact Zt (C / 2^16) (U+16) sO ⟨rfl,om,om,om⟩
  .have G:=oF h;refine ρ ?_;exact Zt C U sO ⟨rfl,om,om,om⟩
 rintro o O w ⟨rfl,e1,b1,c1⟩;refine ρ ?_;refine Ib (fun (y s:Nat)=>[(0,.int .u64 (y:Int)),(2,.int .i64 (s:Int))]) (λy s w'=>w'=w/\Ju x=s+Ju y/\y<256/\s<=56) ?_ ?_
 .refine ci (λh=>?_) (λh=>?_)
  .have G:=oT h;refine ρ ?_;refine Yd rfl rfl (by decide) rfl ?_;refine kv 16 (u:=.int .u64 ((o / 2^8:Nat):Int)) (congrArg (Value.int .u64) (Jzw o 8 64)) ?_;refine ρ ?_;have e:=Jkn (x:=o) (k:=8) om;exact Zt (o / 2^8) (O+8) sO ⟨rfl,om,om,om⟩
  .have G:=oF h;refine ρ ?_;exact Zt o O sO ⟨rfl,om,om,om⟩
 rintro J s2 w ⟨rfl,e2,Z,c2⟩;refine ρ ?_;refine Jlv Jqk J rfl rfl rfl rfl ?_ ?_ rfl ?_
 .rw [IntKind.wrap_u8];omega
 .exact nM Z (by decide)
 refine kv 22 (u:=.int .u8 (Ju J:Int)) (congrArg (λz:Nat=>Value.int .u8 (z:Int)) (tabB _ kr Z)) ?_;have:=Jxp (x:=J) (k:=8) om;refine ρ ?_;refine Jq ⟨?_,rfl⟩;rw [Ga (z:=(Ju J:Int)) om,Ga om];congr 1;omega
theorem Qjh(x:Nat)(hx:x<4294967296)(w:World): Ret Tryz.prog 139 [.int .u32 (x:Int)] w λv w'=>v=.int .i64 (Ju x:Int)/\w'=w:=by
 refine Jz Tryz.func139 Tryz.ntmps139 rfl kr rfl ?_;refine ρ ?_;refine Ib (fun (y s:Nat)=>[(0,.int .u32 (y:Int)),(2,.int .i64 (s:Int))]) (λy s w'=>w'=w/\Ju x=s+Ju y/\y<65536/\s<=16) ?_ ?_
 .refine ci (λh=>?_) (λh=>?_)
  .have G:=oT h;refine ρ ?_;refine Yd rfl rfl (by decide) rfl ?_;refine kv 6 (u:=.int .u32 ((x / 2^16:Nat):Int)) (congrArg (Value.int .u32) (Jzw x 16 32)) ?_;refine ρ ?_;have e:=Jkn (x:=x) (k:=16) om;exact Zt (x / 2^16) 16 sO ⟨rfl,e,om,om⟩
  .have G:=oF h;refine ρ ?_;exact Zt x 0 sO ⟨rfl,om,om,om⟩
 rintro o J w ⟨rfl,e0,b0,c0⟩;refine ρ ?_;refine Ib (fun (y s:Nat)=>[(0,.int .u32 (y:Int)),(2,.int .i64 (s:Int))]) (λy s w'=>w'=w/\Ju x=s+Ju y/\y<256/\s<=24) ?_ ?_
 .refine ci (λh=>?_) (λh=>?_)
  .have G:=oT h;refine ρ ?_;refine Yd rfl rfl (by decide) rfl ?_;refine kv 10 (u:=.int .u32 ((o / 2^8:Nat):Int)) (congrArg (Value.int .u32) (Jzw o 8 32)) ?_;refine ρ ?_;have e:=Jkn (x:=o) (k:=8) om;exact Zt (o / 2^8) (J+8) sO ⟨rfl,om,om,om⟩
  .have G:=oF h;refine ρ ?_;exact Zt o J sO ⟨rfl,om,om,om⟩
 rintro C U w ⟨rfl,Z,O,c1⟩;refine ρ ?_;refine Jlv Jqk C rfl rfl rfl rfl ?_ ?_ rfl ?_
 .rw [IntKind.wrap_u8];omega
 .exact nM O (by decide)
 refine kv 16 (u:=.int .u8 (Ju C:Int)) (congrArg (λz:Nat=>Value.int .u8 (z:Int)) (tabB _ kr O)) ?_;have:=Jxp (x:=C) (k:=8) om;refine ρ ?_;refine Jq ⟨?_,rfl⟩;rw [Ga (z:=(Ju C:Int)) om,Ga om];congr 1;omega
theorem Qkf(x:Nat)(h:x<18446744073709551616)(w:World): Ret Tryz.prog 88 [.int .u64 (x:Int)] w λv w'=>v=.int .i64 (Ju x:Int)/\w'=w:=by
 refine Jz Tryz.func88 Tryz.ntmps88 rfl kr rfl ?_;refine ρ ?_;refine cl (Qlq x h w) ?_;rintro v w' ⟨rfl,rfl⟩;refine ρ ?_;exact Jq ⟨rfl,rfl⟩
end Go.Proofs.YtebcagekopgdhaaGreatDoor
namespace Go.Proofs.YtebcagekopgdhaaGreatDoor
variable {a a' b b' i j:Nat}
section
variable {α:Type} (z:α)
def swp(q:List α)(i j:Nat): List α:=(q.set i (q.getD j z)).set j (q.getD i z)
theorem Qbn(q:List α)(i j:Nat): (swp z q i j).length=q.length:=by simp [swp]
theorem Jxv(q:List α)(i k:Nat)(x:α)(hi:i<q.length): (q.set i x).getD k z=if k=i then x else q.getD k z:=by
 simp only [List.getD,List.getElem?_set];by_cases h:i=k
 .subst h;simp [hi]
 .rw [if_neg h,if_neg (Ne.symm h)]
theorem Jcx(q:List α)(hi:i<q.length)(hj:j<q.length)(k:Nat): (swp z q i j).getD k z=if k=j then q.getD i z else if k=i then q.getD j z else q.getD k z:=by
 unfold swp;rw [Jxv z _ _ _ _ (by simpa using hj),Jxv z _ _ _ _ hi]
theorem Jr(q:List α)(h:i<q.length): q.getD i z=q[i]:=by simp [List.getD,List.getElem?_eq_getElem h]
theorem Jnr(q:List α)(hi:i<q.length)(hj:j<q.length): (swp z q i j).Perm q:=by
 unfold swp;rw [Jr z q hi,Jr z q hj];exact List.set_set_perm hi hj
theorem getD_mem'(q:List α)(h:i<q.length): q.getD i z∈q:=by rw [Jr z q h];exact List.getElem_mem h
structure Seg(a b:Nat)(q q':List α): Prop where
 perm:q'.Perm q
 lo:∀ k,k<a->q'.getD k z=q.getD k z
 hi:∀ k,b<=k->q'.getD k z=q.getD k z
variable {z}
theorem Seg.len{q q':List α}(h:Seg z a b q q'): q'.length=q.length:=h.perm.length_eq
theorem Seg.refl(a b:Nat)(q:List α): Seg z a b q q:=⟨List.Perm.refl _,λ_ _=>rfl,λ_ _=>rfl⟩
theorem Seg.trans{a b:Nat}{q q' q'':List α}(h:Seg z a b q q')(k:Seg z a b q' q''): Seg z a b q q'' :=
 ⟨k.perm.trans h.perm,λi hi=>(k.lo i hi).trans (h.lo i hi),λi hi=>(k.hi i hi).trans (h.hi i hi)⟩
theorem Seg.mono{q q':List α}(h:Seg z a b q q')(h1:a'<=a)(h2:b<=b'): Seg z a' b' q q' :=
 ⟨h.perm,λi hi=>h.lo i om,λi hi=>h.hi i om⟩
theorem Seg.swp{q:List α}(h1:a<=i)(h2:i<b)(h3:a<=j)(h4:j<b)(hb:b<=q.length): Seg z a b q (swp z q i j) :=
 ⟨Jnr z q om om,λk o=>by rw [Jcx z q om om,if_neg om,if_neg om],λk o=>by rw [Jcx z q om om,if_neg om,if_neg om]⟩
theorem Qql{q q':List α}(hl:q'.length=q.length)(h:∀ k,k<q.length->q'.getD k z=q.getD k z): q'=q:=by
 apply List.ext_getElem hl
 intro i u o;have:=h i o;rw [Jr z q o,Jr z q' u]at this;exact this
theorem getD_take(q:List α)(a k:Nat)(h:k<a): (q.take a).getD k z=q.getD k z:=by simp [List.getD,h]
theorem Jbb(q:List α)(a k:Nat): (q.drop a).getD k z=q.getD (a+k) z:=by simp [List.getD,List.getElem?_drop]
theorem Seg.all{q q':List α}(h:Seg z a b q q')(hab:a<=b)(hb:b<=q.length){Φ:α->Prop}(H:∀ k,a<=k->k<b->Φ (q.getD k z)): ∀ k,a<=k->k<b->Φ (q'.getD k z):=by
 intro k h1 U;have C:=h.len;have e1:q'.take a=q.take a:=Qql (z:=z) (by simp [C]) (λi hi=>by
  have o:i<a:=by simp at hi;omega
  rw [getD_take _ _ _ o,getD_take _ _ _ o];exact h.lo i o)
 have Z:q'.drop b=q.drop b:=Qql (z:=z) (by simp [C]) (λi hi=>by
  rw [Jbb,Jbb];exact h.hi _ om)
 have s:∀ l:List α,l=l.take a++((l.take b).drop a++l.drop b):=λl=>by
  rw [<-List.append_assoc];have:l.take a=(l.take b).take a:=by rw [List.take_take];congr 1;omega
  rw [this,List.take_append_drop,List.take_append_drop]
 have p:=h.perm;rw [s q',s q,e1,Z]at p;have G:=(List.perm_append_right_iff _).1 ((List.perm_append_left_iff _).1 p);have J:q'.getD k z∈(q'.take b).drop a:=by
  have e:((q'.take b).drop a).getD (k-a) z=q'.getD k z:=by
   rw [Jbb,show a+(k-a)=k by omega,getD_take _ _ _ U]
  rw [<-e];apply getD_mem'
  simp [C];omega
 have u:=G.mem_iff.1 J;obtain ⟨i,hi,O⟩:=List.getElem_of_mem u;have:((q.take b).drop a).getD i z=q'.getD k z:=by rw [Jr z _ hi,O]
 have o:i+a<b:=by simp at hi;omega
 rw [<-this,Jbb,getD_take _ _ _ om];exact H _ om om
end
section
variable {α:Type} (z:α) (f:α->α->Int)
def SOn(q:List α)(a b:Nat): Prop:=∀ i j,a<=i->i<j->j<b->f (q.getD i z) (q.getD j z)<=0
variable {z f}
theorem SOn.mono{q:List α}(h:SOn z f q a b)(h1:a<=a')(h2:b'<=b): SOn z f q a' b':=λi j hi o u=>h i j om o om
theorem SOn.same{q q':List α}(h:SOn z f q a b)(he:∀ k,a<=k->k<b->q'.getD k z=q.getD k z): SOn z f q' a b:=λi j hi o u=>by
 rw [he i hi om,he j om u];exact h i j hi o u
theorem SOn.one(q:List α)(h:b<=a+1): SOn z f q a b:=λi j hi o u=>by omega
def InsI(z:α)(f:α->α->Int)(q:List α)(a i j:Nat): Prop:=a<=j/\j<=i/\(∀ k m,a<=k->k<m->m<=i->k≠j->m≠j->f (q.getD k z) (q.getD m z)<=0)/\(∀ m,j<m->m<=i->f (q.getD j z) (q.getD m z)<=0)
theorem InsI.start{q:List α}(h:SOn z f q a i)(hi:a<=i): InsI z f q a i i :=
 ⟨hi,Nat.le_refl _,λk m u o J G C=>h k m u o om,λm u o=>om⟩
theorem InsI.step{q:List α}(h:InsI z f q a i j)(hj:a<j)(hi:i<q.length)(hlt:f (q.getD j z) (q.getD (j-1) z)<0): InsI z f (swp z q j (j-1)) a i (j-1):=by
 obtain ⟨h1,Z,C,U⟩:=h;have s:=λk=>Jcx z q (i:=j) (j:=j-1) om om k;refine ⟨om,om,λk m u o G O J=>?_,λm u o=>?_⟩
 .rw [s,s,if_neg O,if_neg J];by_cases e:k=j
  .subst e;rw [if_pos rfl,if_neg om];exact C (k-1) m om om G om om
  .rw [if_neg e];by_cases e2:m=j
   .subst e2;rw [if_pos rfl];exact C k (m-1) u om om e om
   .rw [if_neg e2];exact C k m u o G e e2
 .rw [s,s,if_pos rfl,if_neg om];by_cases e2:m=j
  .rw [if_pos e2];omega
  .rw [if_neg e2];exact U m om o
theorem InsI.done0{q:List α}(h:InsI z f q a i a): SOn z f q a (i+1):=by
 obtain ⟨U,O,G,C⟩:=h;intro k m u o J;by_cases e:k=a
 .subst e;exact C m o om
 .exact G k m u o om e om
theorem InsI.done{q:List α}(hf:PreC f)(h:InsI z f q a i j)(hj:a<j)(hge:¬ f (q.getD j z) (q.getD (j-1) z)<0): SOn z f q a (i+1):=by
 obtain ⟨Z,U,G,J⟩:=h;have o:f (q.getD (j-1) z) (q.getD j z)<=0:=by have:=hf.anti (q.getD j z) (q.getD (j-1) z);omega
 intro k m C u O;by_cases e:k=j
 .subst e;exact J m u om
 .by_cases e2:m=j
  .subst e2;by_cases e3:k=m-1
   .rw [e3];exact o
   .exact hf.trans _ _ _ (G k (m-1) C om om e om) o
  .exact G k m C u om e e2
end
open Go.RowKit Pl Go.Wk
attribute [local irreducible] WC WL QX WD WDB WP
variable {base c i j n:Nat}{A:Option Addr}{fv v:Value}{w w':World}
abbrev Pr:= Value×List V
def z0: Pr:=(undef,[])
def Dat(w:World)(base:Nat)(v:Value)(ps:List Pr): Prop:=w.ownsRow base 37 1 v ps.length (ps.map (·.1))/\∀ p∈ps,p.1.oneCell'=true
theorem Dat.ext{ps:List Pr}(h:Dat w base v ps)(hx:Ext w w'): Dat w' base v ps:=⟨Jk h.1 hx,h.2⟩
theorem Dat.rd{ps:List Pr}(h:Dat w base (.slice A n c) ps)(hn:ps.length=n): Rd w 1 A n (ps.map (·.1)):=by
 have:=h.1;rw [hn]at this;exact Rd.own this
theorem Io{ps:List Pr}(h:i<ps.length): (ps.map (·.1))[i]?=some (ps.getD i z0).1:=by simp [List.getD,List.getElem?_eq_getElem h]
theorem Dat.cell{w:World}{base:Nat}{A:Option Addr}{n c:Nat}{ps:List Pr}(h:Dat w base (.slice A n c) ps)(hn:ps.length=n){i:Nat}(hi:i<n): w.cell? (adr A i)=some (ps.getD i z0).1 :=
 (h.rd hn).cell (Io om)
theorem Dat.one{ps:List Pr}(h:Dat w base v ps)(hi:i<ps.length): (ps.getD i z0).1.oneCell'=true:=h.2 _ (getD_mem' z0 ps hi)
theorem Dat.store{ps:List Pr}(h:Dat w base (.slice A n c) ps)(hn:ps.length=n)(hi:i<n){p:Pr}(hp:p.1.oneCell'=true):
  w.frozen? (adr A i)=false/\Dat (w.setCell (adr A i) p.1) base (.slice A n c) (ps.set i p)/\w.grownBy (w.setCell (adr A i) p.1) (Value.slice A n c).ownBlock:=by
 have o:=h.1;rw [hn]at o;obtain ⟨U,G,C,O,u⟩:=Zl o (q:=i) om p.1;refine ⟨G,⟨?_,λq J=>?_⟩,u⟩
 .rw [List.length_set,hn,List.map_set];exact C
 .rcases List.mem_or_eq_of_mem_set J with h'|h'
  .exact h.2 q h'
  .rw [h'];exact hp
theorem Dat.swap{ps:List Pr}(h:Dat w base (.slice A n c) ps)(hn:ps.length=n)(hi:i<n)(hj:j<n):
  w.frozen? (adr A i)=false/\Rd (w.setCell (adr A i) (ps.getD j z0).1) 1 A n ((ps.set i (ps.getD j z0)).map (·.1))/\(w.setCell (adr A i) (ps.getD j z0).1).frozen? (adr A j)=false /\
  (∃ u,(w.setCell (adr A i) (ps.getD j z0).1).cell? (adr A j)=some u)/\Dat ((w.setCell (adr A i) (ps.getD j z0).1).setCell (adr A j) (ps.getD i z0).1) base (.slice A n c) (swp z0 ps i j) /\
  w.grownBy ((w.setCell (adr A i) (ps.getD j z0).1).setCell (adr A j) (ps.getD i z0).1) (Value.slice A n c).ownBlock:=by
 obtain ⟨Z,C,U⟩:=h.store hn hi (p:=ps.getD j z0) (h.one om);have o:(ps.set i (ps.getD j z0)).length=n:=by simp [hn]
 obtain ⟨O,J,G⟩:=C.store o hj (p:=ps.getD i z0) (h.one om);exact ⟨Z,C.rd o,O,⟨_,C.cell o hj⟩,J,Zv U G⟩
def fP(ds:List Bool)(p q:Pr): Int:=Jw p.2 q.2 ds
theorem preP(ds:List Bool): PreC (fP ds):=(Gz ds).pre (β:=Pr) (λp=>p.2)
def CmpF(w:World)(row:Option Nat)(fv:Value)(M:List Pr)(ds:List Bool): Prop:=∃ fid first cap,fv=.func (.func fid) first cap /\
 ∀ w',w.grownBy w' row->∀ p q,p∈M->q∈M->Ret Tryz.prog fid (first.toList++[p.1,q.1]++cap.toList) w' λr w''=>r=.int .i64 (fP ds p q)/\Ext w' w''
theorem Qmm{a b:Nat}{ai bi:Int}{ps:List Pr}{ds:List Bool}(hD:Dat w base (.slice A n c) ps)(hn:ps.length=n)(hai:ai=(a:Int))(hbi:bi=(b:Int))(hb:b<=n)(ha:a<=n)(hmx:n<=140737488355328)(hC:CmpF w (Value.slice A n c).ownBlock fv ps ds):
  Ret Tryz.prog 169 [.slice A n c,.int .i64 ai,.int .i64 bi,fv] w λv w'=>∃ ps',Dat w' base (.slice A n c) ps'/\Seg z0 a b ps ps'/\SOn z0 (fP ds) ps' a b/\w.grownBy w' (Value.slice A n c).ownBlock:=by
 subst hai;subst hbi;obtain ⟨ab,first,ac,rfl,hC⟩:=hC;refine Jz Tryz.func169 Tryz.ntmps169 rfl kr rfl ?_;refine ρ ?_;refine Je (fun (i:Nat) (q:List Pr)=>[(0,.slice A n c),(1,.int .i64 (a:Int)),(2,.int .i64 (b:Int)),(3,.func (.func ab) first ac),(8,.int .i64 ((i:Nat):Int))])
  (λi q w'=>a+1<=i/\(i<=b∨i=a+1)/\Seg z0 a b ps q/\SOn z0 (fP ds) q a i/\Dat w' base (.slice A n c) q/\w.grownBy w' (Value.slice A n c).ownBlock) (λi _=>b+1-i) (a+1) ps sO
  ⟨Nat.le_refl _,.inr rfl,Seg.refl _ _ _,SOn.one _ om,hD,Zc (Ext.refl w) _⟩ ?_
 rintro i q w1 ⟨hai,ag,a7,a8,aa,a6⟩;refine ρ ?_;refine ci (λh=>?_) (λh=>?_)
 .have af:i<b:=by have:=oT h;omega
  refine ρ ?_;refine Je (fun (j:Nat) (q:List Pr)=>[(0,.slice A n c),(1,.int .i64 (a:Int)),(2,.int .i64 (b:Int)),(3,.func (.func ab) first ac),(8,.int .i64 ((i:Nat):Int)),(9,.int .i64 ((j:Nat):Int))])
   (λj q w'=>InsI z0 (fP ds) q a i j/\Seg z0 a b ps q/\Dat w' base (.slice A n c) q/\w.grownBy w' (Value.slice A n c).ownBlock) (λj _=>j) i q sB ⟨InsI.start a8 om,a7,aa,a6⟩ ?_
  rintro j q w2 ⟨hI,J,ae,ad⟩;have o:q.length=n:=by rw [J.len,hn]
  obtain ⟨h1,h2,_,_⟩:=id hI;refine ρ ?_;refine dr [(0,0),(0,1),(0,2),(0,3),(0,4),(0,5),(0,6),(0,7),(0,8),(0,9),(0,10),(0,11),(0,12),(0,13),(1,14),(0,15),(0,16)] kr ?_;have a4:Ext w2 w2.drew:=(Ext.refl w2).drew;have O:=ae.ext a4;have a2:=Zv ad (Zc a4 _);refine ρd ?_;refine dki 21 (λh=>?_) (λh=>?_)
  .have hj:a<j:=by have:=oT h;omega
   have Z:j<n:=om
   have G:j-1<n:=om
   refine ρd ?_;refine dix j (O.rd o) Z ?_;refine ρd ?_;refine dld (O.cell o Z) ?_;refine ρd ?_;refine dix (j-1) (O.rd o) G ?_;refine ρd ?_;refine dld (O.cell o G) ?_;refine ρd ?_;refine Vx (hC _ a2 (q.getD j z0) (q.getD (j-1) z0) (J.perm.mem_iff.1 (getD_mem' z0 q om)) (J.perm.mem_iff.1 (getD_mem' z0 q om))) ?_;rintro r w4 ⟨rfl,a1⟩;refine ⟨a1,?_⟩;have a9:=O.ext a1;have a5:=Zv a2 (Zc a1 _);refine ρd ?_;refine ρ ?_;refine ci (λh=>?_) (λh=>?_)
   .have U:=oT h;refine ρ ?_;refine drC 4 [0,1,2,3,4,5,6,7,10,11] [(0,8),(0,9),(0,12),(0,13),(0,14),(2,15),(2,16),(2,17)] kr ?_;have a3:Ext w4 w4.drew:=(Ext.refl w4).drew;have C:=a9.ext a3;obtain ⟨s1,s2,s3,⟨u,s4⟩,s5,s6⟩:=C.swap o Z G;refine ρp ?_;refine dix (j-1) (C.rd o) G ?_;refine ρd ?_;refine dld (C.cell o G) ?_;refine ρd ?_;refine dix j (C.rd o) Z ?_;refine ρd ?_;refine dld (C.cell o Z) ?_;refine ρd ?_;refine dix j (C.rd o) Z ?_;refine ρd ?_;refine Ja ?_;refine sto (C.cell o Z) s1 ?_ (hv:=C.one (o.symm ▸ G));refine ρ ?_;refine Qg ?_;refine Ja ?_;refine ix (j-1) s2 G ?_;refine ρ ?_;refine Qg ?_;refine Ja ?_;refine sto s4 s3 ?_ (hv:=C.one (o.symm ▸ Z));refine ρ ?_;exact Jl (j-1) (swp z0 q j (j-1)) sO ⟨hI.step hj om U,J.trans (Seg.swp om om om om om),s5,Zv a5 (Zv (Zc a3 _) s6)⟩ om
   .have U:=oF h;refine ρ ?_;exact Jl (i+1) q sB ⟨om,om,J,hI.done (preP ds) hj U,a9,a5⟩ om
  .have hj:j=a:=by have:=oF h;omega
   subst hj;refine ρd ?_;refine ρ ?_;exact Jl (i+1) q sB ⟨om,om,J,hI.done0,O,a2⟩ om
 .refine ρ ?_;have hbi:b<=i:=by have:=oF h;omega
  exact Uf ⟨q,aa,a7,a8.mono (Nat.le_refl _) hbi,a6⟩
end Go.Proofs.YtebcagekopgdhaaGreatDoor
namespace Go.Wk
variable {a b:Int}{k1 k2:IntKind}{x y:Operand}{t yt:TypeId}
section
variable {P:Program} {n:Nat} {al:AL} {w:World} {Q:Exit->Act->World->Prop} {ops:Array Oper} {rest:List Oper} {d ty:Nat} {pos:String} {aft:Array Edge}
theorem qn(m q:Nat)(k:WL P n ops Q rest ((d,.int .i64 ((m / q:Nat):Int))::al) w)(hx:ev al x=some (.int .i64 a):=by rfl)(hy:ev al y=some (.int .i64 b):=by rfl)(ha:a=(m:Int):=by first|rfl|omega)(hb:b=(q:Int):=by first|rfl|omega)(h0:0<q:=by omega)(hm:m<=9223372036854775807:=by omega)(hd:Nat.blt d n=true:=by rfl): WL P n ops Q (⟨some d,.binOp .quo t x y yt,ty,pos,aft,none⟩::rest) al w:=by
 subst ha;subst hb;refine wquo hx hy om hd ?_;have e:IntKind.i64.wrap ((m:Int).tdiv (q:Int))=((m / q:Nat):Int):=by
  rw [Int.tdiv_eq_ediv_of_nonneg om,<-Int.natCast_ediv];have:=Nat.div_le_self m q;generalize m / q=r at *
  exact Ga om
 rw [e];exact k
variable {drest:List (Nat×Oper)}
theorem dshl(k:WD P n ops Q drest ((d,.int k1 (k1.wrap (a*2^(min b.toNat k1.bits))))::al) w)(hx:ev al x=some (.int k1 a):=by rfl)(hy:ev al y=some (.int k2 b):=by rfl)(h0:0<=b:=by decide)(hd:Nat.blt d n=true:=by rfl):
  WD P n ops Q ((0,⟨some d,.binOp .shl t x y yt,ty,pos,aft,none⟩)::drest) al w :=
 dy (λw' _ e o=>by
  have u:¬ b<0:=om
  simp [execOp,o.ev hx,o.ev hy,eqGuard,binOp,Op.shift,u]) hd k
theorem dshr(k:WD P n ops Q drest ((d,.int k1 (a.fdiv (2^(min b.toNat k1.bits))))::al) w)(hx:ev al x=some (.int k1 a):=by rfl)(hy:ev al y=some (.int k2 b):=by rfl)(h0:0<=b:=by decide)(hd:Nat.blt d n=true:=by rfl):
  WD P n ops Q ((0,⟨some d,.binOp .shr t x y yt,ty,pos,aft,none⟩)::drest) al w :=
 dy (λw' _ e o=>by
  have u:¬ b<0:=om
  simp [execOp,o.ev hx,o.ev hy,eqGuard,binOp,Op.shift,u]) hd k
end
end Go.Wk
namespace Go.Proofs.YtebcagekopgdhaaGreatDoor
open Go.RowKit Pl Go.Wk
attribute [local irreducible] WC WL QX WD WDB WP
variable {cap first:Array Value}{fid:FuncId}{ai bi fsti hii loi:Int}{ds:List Bool}{M ps q q':List Pr}{a b base c fst g hi i j lo n t:Nat}{A:Option Addr}{x y:Pr}{w w' w0 w1:World}
structure DP(w0 w:World)(base:Nat)(A:Option Addr)(n c:Nat)(ps q:List Pr): Prop where
 d:Dat w base (.slice A n c) q
 p:q.Perm ps
 g:w0.grownBy w (Value.slice A n c).ownBlock
 l:q.length=n
section
variable {w0 w w':World} {base:Nat} {A:Option Addr} {n c:Nat} {ps q:List Pr}
theorem DP.start(hD:Dat w base (.slice A n c) ps)(hn:ps.length=n): DP w w base A n c ps ps:=⟨hD,List.Perm.refl _,Zc (Ext.refl w) _,hn⟩
theorem DP.ext(h:DP w0 w base A n c ps q)(hx:Ext w w'): DP w0 w' base A n c ps q:=⟨h.d.ext hx,h.p,Zv h.g (Zc hx _),h.l⟩
theorem DP.drew(h:DP w0 w base A n c ps q): DP w0 w.drew base A n c ps q:=h.ext (Ext.refl w).drew
theorem DP.rd(h:DP w0 w base A n c ps q): Rd w 1 A n (q.map (·.1)):=h.d.rd h.l
theorem DP.cell(h:DP w0 w base A n c ps q){i:Nat}(hi:i<n): w.cell? (adr A i)=some (q.getD i z0).1:=h.d.cell h.l hi
theorem DP.one(h:DP w0 w base A n c ps q){i:Nat}(hi:i<n): (q.getD i z0).1.oneCell'=true:=h.d.one (h.l.symm ▸ hi)
theorem DP.swap(h:DP w0 w base A n c ps q){i j:Nat}(hi:i<n)(hj:j<n):
  w.frozen? (adr A i)=false/\Rd (w.setCell (adr A i) (q.getD j z0).1) 1 A n ((q.set i (q.getD j z0)).map (·.1))/\(w.setCell (adr A i) (q.getD j z0).1).frozen? (adr A j)=false /\
  (∃ u,(w.setCell (adr A i) (q.getD j z0).1).cell? (adr A j)=some u)/\DP w0 ((w.setCell (adr A i) (q.getD j z0).1).setCell (adr A j) (q.getD i z0).1) base A n c ps (swp z0 q i j)/\w.grownBy ((w.setCell (adr A i) (q.getD j z0).1).setCell (adr A j) (q.getD i z0).1) (Value.slice A n c).ownBlock:=by
 obtain ⟨U,O,J,G,C,o⟩:=h.d.swap h.l hi hj;exact ⟨U,O,J,G,⟨C,(Jnr z0 q (h.l.symm ▸ hi) (h.l.symm ▸ hj)).trans h.p,Zv h.g o,by rw [Qbn];exact h.l⟩,o⟩
theorem DP.box(h:DP w0 w base A n c ps q){cs:List Value}(hB:Blk w g t cs)(hne:Nat.beq 37 t=false)(hg:w0.heap.size<=g)(u:Value): DP w0 (w.setCell ⟨g,0,none⟩ u) base A n c ps q:=by
 have C:w.grownBy (w.setCell ⟨g,0,none⟩ u) (some g):=⟨rfl,rfl,rfl,by simp [World.setCell],λk o hn=>Below.heap_setCell w ⟨g,0,none⟩ u k (λe=>hn (by rw [e]))⟩;refine ⟨⟨h.d.1.kept C (Or.inr ?_),h.d.2⟩,h.p,?_,h.l⟩
 .exact λe=>hB.ne_own h.d.1 hne e.symm
 .refine ⟨h.g.os,h.g.tape,h.g.output,?_,λk o hn=>?_⟩
  .simp [World.setCell];exact h.g.size
  .exact (Below.heap_setCell w ⟨g,0,none⟩ u k (by simp;omega)).trans (h.g.block k o hn)
end
def CF(w:World)(row:Option Nat)(fid:FuncId)(first cap:Array Value)(M:List Pr)(ds:List Bool): Prop :=
 ∀ w',w.grownBy w' row->∀ p q,p∈M->q∈M->Ret Tryz.prog fid (first.toList++[p.1,q.1]++cap.toList) w' λr w''=>r=.int .i64 (fP ds p q)/\Ext w' w''
theorem CF.call(hC:CF w0 (Value.slice A n c).ownBlock fid first cap ps ds)(h:DP w0 w base A n c ps q)(hi:i<n)(hj:j<n):
  Ret Tryz.prog fid (first.toList++[(q.getD i z0).1,(q.getD j z0).1]++cap.toList) w λr w''=>∃ b:Int,r=.int .i64 b/\Ext w w'' :=
 (hC w h.g _ _ (h.p.mem_iff.1 (getD_mem' z0 q (h.l.symm ▸ hi))) (h.p.mem_iff.1 (getD_mem' z0 q (h.l.symm ▸ hj)))).mono λr w'' ⟨u,o⟩=>⟨_,u,o⟩
theorem CF.callV(hC:CF w0 (Value.slice A n c).ownBlock fid first cap ps ds)(h:DP w0 w base A n c ps q)(hi:i<n)(hj:j<n):
  Ret Tryz.prog fid (first.toList++[(q.getD i z0).1,(q.getD j z0).1]++cap.toList) w λr w''=>r=.int .i64 (fP ds (q.getD i z0) (q.getD j z0))/\Ext w w'' :=
 hC w h.g _ _ (h.p.mem_iff.1 (getD_mem' z0 q (h.l.symm ▸ hi))) (h.p.mem_iff.1 (getD_mem' z0 q (h.l.symm ▸ hj)))
instance instPr: Inhabited Pr:=⟨z0⟩
def ltP(ds:List Bool)(p q:Pr): Bool:=decide (fP ds p q<0)
theorem az(q:List Pr)(i:Nat): q.toArray[i]! = q.getD i z0:=by
 rw [getElem!_def];simp only [List.getElem?_toArray,List.getD];cases q[i]?<;>rfl
theorem swz(q:List Pr)(i j:Nat): Go.Sort.swp q.toArray i j=(swp z0 q i j).toArray:=by
 unfold Go.Sort.swp swp;rw [az,az,List.setIfInBounds_toArray,List.setIfInBounds_toArray]
theorem Jfw(h:ltP ds x y=true): Jw x.2 y.2 ds<0:=oT (p:=fP ds x y<0) h
theorem Jxm(h:ltP ds x y=false): Jw y.2 x.2 ds<=0:=by
 have o:¬ Jw x.2 y.2 ds<0:=oF (p:=fP ds x y<0) h;have:=Jwk x.2 y.2 ds;omega
theorem ltP_f'(h:Jw y.2 x.2 ds<=0): ltP ds x y=false:=dF (p:=fP ds x y<0) (by
 have:=Jwk x.2 y.2 ds;show ¬ Jw x.2 y.2 ds<0;omega)
theorem swoP(ds:List Bool): Go.Sort.SWO (ltP ds) :=
 ⟨λx=>ltP_f' (by rw [Va];exact Int.le_refl _),λx y z u o=>decide_eq_true (p:=fP ds x z<0) ((Gz ds).lt_le (Jfw u) (Int.le_of_lt (Jfw o))),
  λx y z u o=>ltP_f' (Jbl z.2 y.2 x.2 ds (Jxm o) (Jxm u))⟩
theorem DP.seg(h:DP w0 w base A n c ps q)(k:Go.Sort.PermIn a b ps.toArray q.toArray): Seg z0 a b ps q :=
 ⟨h.p,λi hi=>by have:=k.2.1 i (.inl hi);rwa [az,az]at this,λi hi=>by have:=k.2.1 i (.inr hi);rwa [az,az]at this⟩
theorem Jpd(h:Go.Sort.SortedIn (ltP ds) a b q.toArray): SOn z0 (fP ds) q a b:=λi j hi o u=>by
 have:=h i j hi o u;rw [az,az]at this;exact Jxm this
theorem Qch(ds:List Bool)(hi fst root:Nat)(q:List Pr): Go.Sort.siftDown (ltP ds) hi fst root q.toArray=if 2*root+1 ≥ hi then q.toArray else
  if ltP ds (q.getD (fst+root) z0) (q.getD (fst+(if (decide (2*root+2<hi) && ltP ds (q.getD (fst+(2*root+1)) z0) (q.getD (fst+(2*root+1)+1) z0))=true then 2*root+2 else 2*root+1)) z0)=true then
   Go.Sort.siftDown (ltP ds) hi fst (if (decide (2*root+2<hi) && ltP ds (q.getD (fst+(2*root+1)) z0) (q.getD (fst+(2*root+1)+1) z0))=true then 2*root+2 else 2*root+1)
    (swp z0 q (fst+root) (fst+(if (decide (2*root+2<hi) && ltP ds (q.getD (fst+(2*root+1)) z0) (q.getD (fst+(2*root+1)+1) z0))=true then 2*root+2 else 2*root+1))).toArray
  else q.toArray:=by
 rw [Go.Sort.siftDown];by_cases h1:2*root+1 ≥ hi
 .rw [dif_pos h1,if_pos h1]
 rw [dif_neg h1,if_neg h1];simp only [az,swz];by_cases h2:(decide (2*root+2<hi) && ltP ds (q.getD (fst+(2*root+1)) z0) (q.getD (fst+(2*root+1)+1) z0))=true
 .have o:2*root+2<hi:=by simp at h2;exact h2.1
  rw [if_pos (show (decide (2*root+1+1<hi) && ltP ds (q.getD (fst+(2*root+1)) z0) (q.getD (fst+(2*root+1)+1) z0))=true from h2),if_pos h2,dif_pos o];cases ltP ds (q.getD (fst+root) z0) (q.getD (fst+(2*root+2)) z0)<;>simp
 .rw [if_neg (show ¬ (decide (2*root+1+1<hi) && ltP ds (q.getD (fst+(2*root+1)) z0) (q.getD (fst+(2*root+1)+1) z0))=true from h2),if_neg h2];cases ltP ds (q.getD (fst+root) z0) (q.getD (fst+(2*root+1)) z0)<;>simp
theorem CF.pack{row:Option Nat}(h:CF w row fid first cap M ds): CmpF w row (.func (.func fid) first cap) M ds:=⟨fid,first,cap,rfl,h⟩
theorem CF.step(hC:CF w (Value.slice A n c).ownBlock fid first cap ps ds)(h:DP w w1 base A n c ps q): CF w1 (Value.slice A n c).ownBlock fid first cap q ds :=
 λw' o a b C u=>hC w' (Zv h.g o) a b (h.p.mem_iff.1 C) (h.p.mem_iff.1 u)
theorem DP.after(h:DP w0 w base A n c ps q)(k:DP w w' base A n c q q'): DP w0 w' base A n c ps q':=⟨k.d,k.p.trans h.p,Zv h.g k.g,k.l⟩
theorem Qdl(hD:Dat w base (.slice A n c) ps)(hn:ps.length=n)(hmx:n<=140737488355328)(hC:CF w (Value.slice A n c).ownBlock fid first cap ps ds)(hai:ai=(a:Int))(hbi:bi=(b:Int))(hab:a<b)(hb:b<=n):
  Ret Tryz.prog 179 [.slice A n c,.int .i64 ai,.int .i64 bi,.func (.func fid) first cap] w λv w'=>∃ ps',DP w w' base A n c ps ps'/\Seg z0 a b ps ps':=by
 subst hai;subst hbi;refine Jz Tryz.func179 Tryz.ntmps179 rfl kr rfl ?_;refine ρ ?_;refine Xm (fun (i j:Nat) (q:List Pr)=>[(0,.slice A n c),(8,.int .i64 (i:Int)),(9,.int .i64 ((j:Int)-1))])
  (λi j q w'=>DP w w' base A n c ps q/\j<=b/\a<=i/\i<=n/\Seg z0 a b ps q) (λi j _=>n+j-i) a b ps sO ⟨DP.start hD hn,Nat.le_refl _,Nat.le_refl _,om,Seg.refl _ _ _⟩ ?_
 rintro i j q w1 ⟨H,hj,hai,hi,J⟩;refine ρ ?_;refine ci (λh=>?_) (λh=>?_)
 .have a1:i+1<j:=by have:=oT h;omega
  have C:i<n:=om
  have G:j-1<n:=om
  refine ρ ?_;refine drC 4 [0,1,2,3,4,5,8,9] [(0,6),(0,7),(0,10),(0,11),(0,12),(2,13),(2,14),(2,15)] kr ?_;have o:=H.drew;obtain ⟨s1,s2,Z,⟨u,U⟩,O,s6⟩:=o.swap C G;refine ρp ?_;refine dix (j-1) o.rd G ?_;refine ρd ?_;refine dld (o.cell G) ?_;refine ρd ?_;refine dix (i) o.rd C ?_;refine ρd ?_;refine dld (o.cell C) ?_;refine ρd ?_;refine dix (i) o.rd C ?_;refine ρd ?_;refine Ja ?_;refine sto (o.cell C) s1 ?_ (hv:=o.one G);refine ρ ?_;refine Qg ?_;refine Ja ?_;refine ix (j-1) s2 G ?_;refine ρ ?_;refine Qg ?_;refine Ja ?_;refine sto U Z ?_ (hv:=o.one C);refine ρ ?_;exact Qt (i+1) (j-1) (swp z0 q i (j-1)) sO ⟨O,om,om,om,J.trans (Seg.swp om om om om (by rw [H.l];exact hb))⟩ om
 .refine ρ ?_;exact Uf ⟨q,H,J⟩
theorem Jpk(hD:Dat w base (.slice A n c) ps)(hn:ps.length=n)(hmx:n<=140737488355328)(hC:CF w (Value.slice A n c).ownBlock fid first cap ps ds)(hlo:loi=(lo:Int))(hhi:hii=(hi:Int))(hfst:fsti=(fst:Int))(hb:fst+hi<=n)(hl:lo<=n):
  Ret Tryz.prog 197 [.slice A n c,.int .i64 loi,.int .i64 hii,.int .i64 fsti,.func (.func fid) first cap] w λv w'=>∃ ps',DP w w' base A n c ps ps'/\Go.Sort.siftDown (ltP ds) hi fst lo ps.toArray=ps'.toArray:=by
 subst hlo;subst hhi;subst hfst;refine Jz Tryz.func197 Tryz.ntmps197 rfl kr rfl ?_;refine ρ ?_;refine Je (fun (o:Nat) (q:List Pr)=>[(0,.slice A n c),(2,.int .i64 (hi:Int)),(3,.int .i64 (fst:Int)),(4,.func (.func fid) first cap),(10,.int .i64 (o:Int))])
  (λo q w'=>DP w w' base A n c ps q/\o<=n/\Go.Sort.siftDown (ltP ds) hi fst lo ps.toArray=Go.Sort.siftDown (ltP ds) hi fst o q.toArray) (λo _=>n-o) lo ps sB ⟨DP.start hD hn,hl,rfl⟩ ?_
 rintro o q w1 ⟨H,hr,O⟩;rw [Qch ds hi fst o q]at O;refine ρ ?_;refine ci (λh=>?_) (λh=>?_)
 .rw [if_pos (show 2*o+1 ≥ hi by have:=oT h;omega)]at O;refine ρ ?_;exact Uf ⟨q,H,O⟩
 have aa:2*o+1<hi:=by have:=oF h;omega
 rw [if_neg (show ¬ 2*o+1 ≥ hi by omega)]at O;refine ρ ?_;refine Xt (fun (b:Bool)=>[(0,.slice A n c),(2,.int .i64 (hi:Int)),(3,.int .i64 (fst:Int)),(4,.func (.func fid) first cap),(10,.int .i64 (o:Int)),(11,.int .i64 (2*(o:Int)+1)),(40,.bool b)]) (λb w'=>DP w w' base A n c ps q/\(b=true->2*o+2<hi)/\b=(decide (2*o+2<hi) && ltP ds (q.getD (fst+(2*o+1)) z0) (q.getD (fst+(2*o+1)+1) z0))) ?_ ?_
 .skip
  refine dr [(0,0),(0,1),(0,2),(0,3),(0,4),(0,5),(0,6),(0,7),(0,8),(0,9),(0,10),(0,11),(0,12),(0,13),(0,14),(0,15),(0,16),(0,17),(0,18),(1,19),(0,20),(0,21)] kr ?_;have Hd:=H.drew;refine ρd ?_;refine dki 23 (λh=>?_) (λh=>?_)
  .have a3:2*o+2<hi:=by have:=oT h;omega
   have li:fst+(2*o+1)<n:=om
   have lj:fst+(2*o+1)+1<n:=om
   refine ρd ?_;refine dix (fst+(2*o+1)) Hd.rd li ?_;refine ρd ?_;refine dld (Hd.cell li) ?_;refine ρd ?_;refine dix (fst+(2*o+1)+1) Hd.rd lj ?_;refine ρd ?_;refine dld (Hd.cell lj) ?_;refine ρd ?_;refine Vx (hC.callV Hd li lj) ?_;rintro r a8 ⟨rfl,a2⟩;refine ⟨a2,?_⟩;have H2:=Hd.ext a2;refine ρd ?_;refine ρ ?_;exact Jf _ sB ⟨H2,λ_=>a3,by rw [decide_eq_true a3];rfl⟩
  .refine ρd ?_;refine ρ ?_;exact Jf false sB ⟨Hd,(λe=>by cases e),by rw [decide_eq_false (show ¬ 2*o+2<hi by have:=oF h;omega)];rfl⟩
 rintro b w2 ⟨H2,a6,a5⟩;rw [<-a5]at O;refine Xt (fun (C:Nat)=>[(0,.slice A n c),(2,.int .i64 (hi:Int)),(3,.int .i64 (fst:Int)),(4,.func (.func fid) first cap),(10,.int .i64 (o:Int)),(11,.int .i64 (C:Int))]) (λC w'=>DP w w' base A n c ps q/\o<C/\C<hi/\C=if b=true then 2*o+2 else 2*o+1) ?_ ?_
 .refine ci (λh=>?_) (λh=>?_)
  .have:=a6 h;refine ρ ?_;exact Jf (2*o+2) sO ⟨H2,om,om,by rw [if_pos h]⟩
  .refine ρ ?_;exact Jf (2*o+1) sO ⟨H2,om,om,by rw [if_neg (by rw [h];decide)]⟩
 rintro C w3 ⟨H3,a3,a9,a4⟩;rw [<-a4]at O;have U:fst+o<n:=om
 have Z:fst+C<n:=om
 refine ρ ?_;refine dr [(0,0),(0,1),(0,2),(0,3),(0,4),(0,5),(0,6),(0,7),(0,8),(0,9),(0,10),(0,11),(0,12),(1,13),(0,14),(0,15)] kr ?_;have J:=H3.drew;refine ρd ?_;refine ρd ?_;refine dix (fst+o) J.rd U ?_;refine ρd ?_;refine dld (J.cell U) ?_;refine ρd ?_;refine dix (fst+C) J.rd Z ?_;refine ρd ?_;refine dld (J.cell Z) ?_;refine ρd ?_;refine Vx (hC.callV J U Z) ?_;rintro r a7 ⟨rfl,a1⟩;refine ⟨a1,?_⟩;have H4:=J.ext a1;refine ρd ?_;refine ρ ?_;refine ci (λh=>?_) (λh=>?_)
 .have hf:ltP ds (q.getD (fst+o) z0) (q.getD (fst+C) z0)=false:=by simpa [ltP] using h
  rw [if_neg (by rw [hf];decide)]at O;refine ρ ?_;exact Jwc ⟨q,H4,O⟩
 have ht:ltP ds (q.getD (fst+o) z0) (q.getD (fst+C) z0)=true:=by simpa [ltP] using h
 rw [if_pos ht]at O;refine ρ ?_;refine drC 4 [0,1,2,3,4,5,6,7,8,9,10,11,14,15,16,17] [(0,12),(0,13),(0,18),(0,19),(0,20),(2,21),(2,22),(2,23)] kr ?_;have G:=H4.drew;obtain ⟨s1,s2,s3,⟨u,s4⟩,s5,s6⟩:=G.swap U Z;refine ρp ?_;refine dix (fst+C) G.rd Z ?_;refine ρd ?_;refine dld (G.cell Z) ?_;refine ρd ?_;refine dix (fst+o) G.rd U ?_;refine ρd ?_;refine dld (G.cell U) ?_;refine ρd ?_;refine dix (fst+o) G.rd U ?_;refine ρd ?_;refine Ja ?_;refine sto (G.cell U) s1 ?_ (hv:=G.one Z);refine ρ ?_;refine Qg ?_;refine Ja ?_;refine ix (fst+C) s2 Z ?_;refine ρ ?_;refine Qg ?_;refine Ja ?_;refine sto s4 s3 ?_ (hv:=G.one U);refine ρ ?_;exact Jl C (swp z0 q (fst+o) (fst+C)) sB ⟨s5,om,O⟩ om
theorem Qmz(hD:Dat w base (.slice A n c) ps)(hn:ps.length=n)(hmx:n<=140737488355328)(hC:CF w (Value.slice A n c).ownBlock fid first cap ps ds)(hai:ai=(a:Int))(hbi:bi=(b:Int))(hab:a<b)(hb:b<=n):
  Ret Tryz.prog 176 [.slice A n c,.int .i64 ai,.int .i64 bi,.func (.func fid) first cap] w λv w'=>∃ ps',DP w w' base A n c ps ps'/\Go.Sort.heapSort (ltP ds) ps.toArray a b=ps'.toArray:=by
 subst hai;subst hbi;refine Jz Tryz.func176 Tryz.ntmps176 rfl kr rfl ?_;refine ρ ?_;refine qn (b-a-1) 2 ?_;refine ρ ?_;refine Je (fun (i:Nat) (q:List Pr)=>[(0,.slice A n c),(3,.func (.func fid) first cap),(8,.int .i64 (a:Int)),(9,.int .i64 0),(10,.int .i64 ((b:Int)-(a:Int))),(11,.int .i64 ((i:Int)-1))])
  (λi q w'=>DP w w' base A n c ps q/\i<=n/\Go.Sort.heapSort (ltP ds) ps.toArray a b=Go.Sort.heapPop (ltP ds) a (b-a) (Go.Sort.heapBuild (ltP ds) (b-a) a i q.toArray)) (λi _=>i) ((b-a-1) / 2+1) ps sO ⟨DP.start hD hn,om,rfl⟩ ?_
 rintro i q w1 ⟨H,hi,C⟩;refine ρ ?_;refine ci (λh=>?_) (λh=>?_)
 .have o:0<i:=by have:=oT h;omega
  refine ρ ?_;refine cl (Jpk (lo:=i-1) (hi:=b-a) (fst:=a) (loi:=(i:Int)-1) (hii:=(b:Int)-(a:Int)) H.d H.l hmx (hC.step H) om om rfl om om) ?_;rintro v w2 ⟨q2,H2,J⟩;have e1:i=(i-1)+1:=om
  rw [e1,Go.Sort.heapBuild,J]at C;refine ρ ?_;exact Jl (i-1) q2 sO ⟨H.after H2,om,C⟩ om
 have o:i=0:=by have:=oF h;omega
 rw [o,Go.Sort.heapBuild]at C;refine ρ ?_;refine Je (fun (i:Nat) (q:List Pr)=>[(0,.slice A n c),(3,.func (.func fid) first cap),(8,.int .i64 (a:Int)),(9,.int .i64 0),(12,.int .i64 ((i:Int)-1))])
  (λi q w'=>DP w w' base A n c ps q/\i<=b-a/\Go.Sort.heapSort (ltP ds) ps.toArray a b=Go.Sort.heapPop (ltP ds) a i q.toArray) (λi _=>i) (b-a) q sO ⟨H,om,C⟩ ?_
 clear C;rintro i q w1 ⟨H,hi,C⟩;refine ρ ?_;refine ci (λh=>?_) (λh=>?_)
 .have o:0<i:=by have:=oT h;omega
  have O:a<n:=om
  have U:a+(i-1)<n:=om
  refine ρ ?_;refine drC 4 [0,1,2,3,4,5,6,7,8,9,12,13] [(0,10),(0,11),(0,14),(0,15),(0,16),(2,17),(2,18),(2,19)] kr ?_;have G:=H.drew;obtain ⟨s1,s2,s3,⟨u,s4⟩,Z,s6⟩:=G.swap O U;refine ρp ?_;refine dix (a+(i-1)) G.rd U ?_;refine ρd ?_;refine dld (G.cell U) ?_;refine ρd ?_;refine dix (a) G.rd O ?_;refine ρd ?_;refine dld (G.cell O) ?_;refine ρd ?_;refine dix (a) G.rd O ?_;refine ρd ?_;refine Ja ?_;refine sto (G.cell O) s1 ?_ (hv:=G.one U);refine ρ ?_;refine Qg ?_;refine Ja ?_;refine ix (a+(i-1)) s2 U ?_;refine ρ ?_;refine Qg ?_;refine Ja ?_;refine sto s4 s3 ?_ (hv:=G.one O);refine ρ ?_;refine cl (Jpk (lo:=0) (hi:=i-1) (fst:=a) (loi:=0) (hii:=(i:Int)-1) Z.d Z.l hmx (hC.step Z) rfl om rfl om om) ?_;rintro v w2 ⟨q2,H2,J⟩;have e1:i=(i-1)+1:=om
  rw [e1,Go.Sort.heapPop,swz,J]at C;refine ρ ?_;exact Jl (i-1) q2 sO ⟨Z.after H2,om,C⟩ om
 have o:i=0:=by have:=oF h;omega
 rw [o,Go.Sort.heapPop]at C;refine ρ ?_;exact Uf ⟨q,H,C⟩
open Go.RowKit Pl Go.Wk
variable {cap first:Array Value}{fid:FuncId}{ai bi s:Int}{ds:List Bool}{ps q:List Pr}{a b base c e g n:Nat}{A:Option Addr}{w w0:World}
theorem zInt: Qp Tryz.prog 3=some (.int .i64 0):=kr
theorem zXor: Qp Tryz.prog 270=some (.int .u64 0):=kr
theorem Jfk(H:DP w0 w base A n c ps q)(hmx:n<=140737488355328)(hC:CF w0 (Value.slice A n c).ownBlock fid first cap ps ds)(hB:Blk w g 3 [.int .i64 s])(hg:w0.heap.size<=g)(ha:a<n)(hb:b<n):
  Ret Tryz.prog 211 [.slice A n c,.int .i64 (a:Int),.int .i64 (b:Int),.pointer (some ⟨g,0,none⟩),.func (.func fid) first cap] w λr w'=>∃ x y:Nat,∃ s':Int,r=.tuple #[.int .i64 (x:Int),.int .i64 (y:Int)]/\((x=a/\y=b)∨(x=b/\y=a))/\DP w0 w' base A n c ps q/\Blk w' g 3 [.int .i64 s']:=by
 refine Jz Tryz.func211 Tryz.ntmps211 rfl kr rfl ?_;refine ρ ?_;refine dr [(0,0),(0,1),(0,2),(0,3),(0,4),(0,5),(0,6),(0,7),(0,8),(1,9),(0,10)] kr ?_;have C:=H.drew;refine ρd ?_;refine ρd ?_;refine dix (b) C.rd hb ?_;refine ρd ?_;refine dld (C.cell hb) ?_;refine ρd ?_;refine dix (a) C.rd ha ?_;refine ρd ?_;refine dld (C.cell ha) ?_;refine ρd ?_;refine Vx (hC.call C hb ha) ?_;rintro r J ⟨O,rfl,u⟩;refine ⟨u,?_⟩;have G:=C.ext u;refine ρd ?_;refine ρ ?_;have o:=(hB.ext (Ext.refl w).drew).ext u;refine ci (λh=>?_) (λh=>?_)
 .refine ρ ?_;refine ld (o.cell 0) ?_;refine ρ ?_;refine sto (o.cell 0) (o.frozen 0) ?_;refine ρ ?_;exact Yw ⟨b,a,_,rfl,.inr ⟨rfl,rfl⟩,G.box o rfl hg _,o.set 0 _⟩
 .refine ρ ?_;exact Yw ⟨a,b,_,rfl,.inl ⟨rfl,rfl⟩,G,o⟩
theorem Jtq(H:DP w0 w base A n c ps q)(hmx:n<=140737488355328)(hC:CF w0 (Value.slice A n c).ownBlock fid first cap ps ds)(hB:Blk w g 3 [.int .i64 s])(hg:w0.heap.size<=g)(ha:a<n)(hb:b<n)(he:e<n):
  Ret Tryz.prog 201 [.slice A n c,.int .i64 (a:Int),.int .i64 (b:Int),.int .i64 (e:Int),.pointer (some ⟨g,0,none⟩),.func (.func fid) first cap] w λr w'=>∃ m:Nat,∃ s':Int,r=.int .i64 (m:Int)/\(m=a∨m=b∨m=e)/\DP w0 w' base A n c ps q/\Blk w' g 3 [.int .i64 s']:=by
 refine Jz Tryz.func201 Tryz.ntmps201 rfl kr rfl ?_;refine ρ ?_;refine cl (Jfk H hmx hC hB hg ha hb) ?_;rintro r w1 ⟨U,O,s1,rfl,e1,H1,C⟩;refine ρ ?_;refine cl (Jfk (a:=O) (b:=e) H1 hmx hC C hg om he) ?_;rintro r w2 ⟨J,e2,s2,rfl,e3,H2,u⟩;refine ρ ?_;refine cl (Jfk (a:=U) (b:=J) H2 hmx hC u hg om om) ?_;rintro r w3 ⟨a3,G,s3,rfl,e4,Z,o⟩;refine ρ ?_;exact Jq ⟨G,_,rfl,om,Z,o⟩
theorem Jfr(H:DP w0 w base A n c ps q)(hmx:n<=140737488355328)(hC:CF w0 (Value.slice A n c).ownBlock fid first cap ps ds)(hB:Blk w g 3 [.int .i64 s])(hg:w0.heap.size<=g)(hai:ai=(a:Int))(ha:0<a)(hb:a+1<n):
  Ret Tryz.prog 200 [.slice A n c,.int .i64 ai,.pointer (some ⟨g,0,none⟩),.func (.func fid) first cap] w λr w'=>∃ m:Nat,∃ s':Int,r=.int .i64 (m:Int)/\(m=a∨m+1=a∨m=a+1)/\DP w0 w' base A n c ps q/\Blk w' g 3 [.int .i64 s']:=by
 subst hai;refine Jz Tryz.func200 Tryz.ntmps200 rfl kr rfl ?_;refine ρ ?_;have C:a-1<n:=om
 have u:((a:Int)-1)=((a-1:Nat):Int):=om
 have G:((a:Int)+1)=((a+1:Nat):Int):=om
 rw [u,G];refine cl (Jtq H hmx hC hB hg C (by omega:a<n) hb) ?_;rintro r O ⟨m,U,rfl,u,J,o⟩;refine ρ ?_;exact Jq ⟨m,_,rfl,om,J,o⟩
theorem Qrv(hD:Dat w base (.slice A n c) ps)(hn:ps.length=n)(hmx:n<=140737488355328)(hC:CF w (Value.slice A n c).ownBlock fid first cap ps ds)(hai:ai=(a:Int))(hbi:bi=(b:Int))(hab:a+12<b)(hb:b<=n):
  Ret Tryz.prog 178 [.slice A n c,.int .i64 ai,.int .i64 bi,.func (.func fid) first cap] w λr w'=>∃ m:Nat,∃ z:Int,r=.tuple #[.int .i64 (m:Int),.int .i64 z]/\a<=m/\m<b/\DP w w' base A n c ps ps:=by
 subst hai;subst hbi;refine Jz Tryz.func178 Tryz.ntmps178 rfl kr rfl ?_;refine ρ ?_;refine alc zInt ?_;intro w1 g u o hB;have H1:=(DP.start hD hn).ext u;refine ρ ?_;refine qn (b-a) 4 ?_;refine ρ ?_;refine qn (b-a) 4 ?_;refine ρ ?_;refine qn (b-a) 4 ?_;refine ρ ?_;refine ct ?_ ?_
 .exact decide_eq_true om
 have hq:(b-a) / 4<=(b-a)/\3<=(b-a) / 4/\4*((b-a) / 4)<=b-a:=om
 generalize (b-a) / 4=l4 at hq ⊢
 refine ρ ?_;refine Jmp (fun (i j k:Nat)=>[(0,.slice A n c),(3,.func (.func fid) first cap),(11,.pointer (some ⟨g,0,none⟩)),(12,.int .i64 (i:Int)),(13,.int .i64 (j:Int)),(14,.int .i64 (k:Int))])
  (λi j k w'=>DP w w' base A n c ps ps/\(∃ s:Int,Blk w' g 3 [.int .i64 s])/\a<=i/\i<b/\a<=j/\j<b/\a<=k/\k<b) ?_ ?_
 .refine ci (λh=>?_) (λh=>?_)
  .have a1:=oT h;refine ρ ?_;refine cl (Jfr (a:=a+l4) (ai:=(a:Int)+(l4:Int)*1) H1 hmx hC hB o om om om) ?_;rintro r w2 ⟨i,s2,rfl,e2,H2,U⟩;refine ρ ?_;refine cl (Jfr (a:=a+l4*2) (ai:=(a:Int)+(l4:Int)*2) H2 hmx hC U o om om om) ?_;rintro r w3 ⟨j,s3,rfl,e3,H3,O⟩;refine ρ ?_;refine cl (Jfr (a:=a+l4*3) (ai:=(a:Int)+(l4:Int)*3) H3 hmx hC O o om om om) ?_;rintro r w4 ⟨k,s4,rfl,e4,H4,J⟩;refine ρ ?_;exact Jvv i j k sB ⟨H4,⟨_,J⟩,om,om,om,om,om,om⟩
  .refine ρ ?_;exact Jvv (a+l4) (a+l4*2) (a+l4*3) sO ⟨H1,⟨_,hB⟩,om,om,om,om,om,om⟩
 rintro i j k w5 ⟨H5,⟨s5,G⟩,h1,h2,h3,h4,h5,h6⟩;refine ρ ?_;refine cl (Jtq H5 hmx hC G o (by omega:i<n) (by omega:j<n) (by omega:k<n)) ?_;rintro r w6 ⟨m,s6,rfl,e6,Z,C⟩;refine ρ ?_;refine ld (C.cell 0) ?_;refine ρ ?_;refine ci (λh=>?_) (λh=>?_)
 .refine ρ ?_;exact Yw ⟨m,_,rfl,om,om,Z⟩
 refine ρ ?_;refine ci (λh=>?_) (λh=>?_)
 .refine ρ ?_;exact Yw ⟨m,_,rfl,om,om,Z⟩
 refine ρ ?_;exact Yw ⟨m,_,rfl,om,om,Z⟩
open Go.RowKit Pl Go.Wk
variable {ai bi mi r:Int}{ps q:List Pr}{a b base c g m n:Nat}{A:Option Addr}{w w0:World}
theorem Qkd(op:BinOp)(x y:Int): 0<=bits op .u64 x y/\bits op .u64 x y<=18446744073709551615:=by
 unfold bits;rw [IntKind.wrap_u64];omega
theorem Qvd(H:DP w0 w base A n c ps q)(hB:Blk w g 270 [.int .u64 r])(hg:w0.heap.size<=g):
  Ret Tryz.prog 199 [.pointer (some ⟨g,0,none⟩)] w λv w'=>∃ r',v=.int .u64 r'/\0<=r'/\r'<=18446744073709551615/\DP w0 w' base A n c ps q/\Blk w' g 270 [.int .u64 r']:=by
 refine Jz Tryz.func199 Tryz.ntmps199 rfl kr rfl ?_;refine ρ ?_;refine dr [(0,0),(0,1),(0,2),(0,3),(0,4),(0,5),(0,6),(0,7),(0,8),(2,9)] kr ?_;have b0:=hB.ext (Ext.refl _).drew;have h0:=H.drew;refine ρd ?_;refine dld (b0.cell 0) ?_;refine ρd ?_;refine dld (b0.cell 0) ?_;refine ρd ?_;refine dshl ?_;refine ρd ?_;obtain ⟨O,a2⟩:∃ z,z=bits .xor .u64 r (IntKind.u64.wrap (r*2^min (13:Int).toNat IntKind.u64.bits)):=⟨_,rfl⟩;refine dkv 10 (u:=.int .u64 O) (congrArg (Value.int .u64) a2.symm) ?_;refine Ja ?_;refine sto (b0.cell 0) (b0.frozen 0) ?_;refine ρ ?_;have H1:=h0.box b0 rfl hg (.int .u64 O);have a4:=b0.set 0 (.int .u64 O);refine dr [(0,0),(0,1),(0,2),(0,3),(0,4),(0,5),(0,6),(0,7),(0,8),(2,9)] kr ?_;have G:=a4.ext (Ext.refl _).drew;have h1:=H1.drew;refine ρd ?_;refine dld (G.cell 0) ?_;refine ρd ?_;refine dld (G.cell 0) ?_;refine ρd ?_;refine dshr ?_
 refine ρd ?_;obtain ⟨J,a1⟩:∃ z,z=bits .xor .u64 O (O.fdiv (2^min (7:Int).toNat IntKind.u64.bits)):=⟨_,rfl⟩;refine dkv 19 (u:=.int .u64 J) (congrArg (Value.int .u64) a1.symm) ?_;refine Ja ?_;refine sto (G.cell 0) (G.frozen 0) ?_;refine ρ ?_;have H2:=h1.box G rfl hg (.int .u64 J);have a3:=G.set 0 (.int .u64 J);refine dr [(0,0),(0,1),(0,2),(0,3),(0,4),(0,5),(0,6),(0,7),(0,8),(2,9)] kr ?_;have C:=a3.ext (Ext.refl _).drew;have h2:=H2.drew;refine ρd ?_;refine dld (C.cell 0) ?_;refine ρd ?_;refine dld (C.cell 0) ?_;refine ρd ?_;refine dshl ?_;refine ρd ?_;obtain ⟨Z,o⟩:∃ z,z=bits .xor .u64 J (IntKind.u64.wrap (J*2^min (17:Int).toNat IntKind.u64.bits)):=⟨_,rfl⟩;refine dkv 28 (u:=.int .u64 Z) (congrArg (Value.int .u64) o.symm) ?_;refine Ja ?_;refine sto (C.cell 0) (C.frozen 0) ?_;refine ρ ?_;have H3:=h2.box C rfl hg (.int .u64 Z);have U:=C.set 0 (.int .u64 Z);refine ld (U.cell 0) ?_
 refine ρ ?_;exact Jq ⟨Z,rfl,by rw [o];exact (Qkd _ _ _).1,by rw [o];exact (Qkd _ _ _).2,H3,U⟩
theorem Qhh(hmi:mi=(m:Int))(h0:0<m)(hm:m<=140737488355328)(w:World): Ret Tryz.prog 198 [.int .i64 mi] w λv w'=>∃ p:Nat,v=.int .u64 (p:Int)/\0<p/\p<=2*m/\w'=w:=by
 subst hmi;refine Jz Tryz.func198 Tryz.ntmps198 rfl kr rfl ?_;refine ρ ?_;refine kv 4 (u:=.int .u64 (m:Int)) (congrArg (Value.int .u64) (Ut om)) ?_;refine cl (Qkf m om w) ?_;rintro v w' ⟨rfl,rfl⟩;refine ρ ?_;refine wshl rfl rfl om rfl ?_;obtain ⟨O,J⟩:=Qjg (x:=m) om;have G:Ju m<=48:=Jxp om;have C:2^Ju m=2*2^(Ju m-1):=by rw [<-Nat.pow_succ'];congr 1;omega
 have e:IntKind.u64.wrap (1*2^min ((Ju m:Nat):Int).toNat IntKind.u64.bits)=((2^Ju m:Nat):Int):=by
  have o:min ((Ju m:Nat):Int).toNat IntKind.u64.bits=Ju m:=by simp only [Int.toNat_natCast];exact Nat.min_eq_left (by show Ju m<=64;omega)
  rw [o,Int.one_mul];have:((2^Ju m:Nat):Int)=(2:Int)^Ju m:=by push_cast;rfl
  rw [<-this];exact Ut om
 refine kv 6 (congrArg (Value.int .u64) e) ?_;refine ρ ?_;exact Jq ⟨2^Ju m,rfl,Nat.pow_pos om,om,rfl⟩
theorem Qsf{fid:FuncId}{first cap:Array Value}{ds:List Bool}(hD:Dat w base (.slice A n c) ps)(hn:ps.length=n)(hmx:n<=140737488355328)(hC:CF w (Value.slice A n c).ownBlock fid first cap ps ds)(hai:ai=(a:Int))(hbi:bi=(b:Int))(hab:a+12<b)(hb:b<=n):
  Ret Tryz.prog 177 [.slice A n c,.int .i64 ai,.int .i64 bi,.func (.func fid) first cap] w λv w'=>∃ ps',DP w w' base A n c ps ps'/\Seg z0 a b ps ps':=by
 subst hai;subst hbi;refine Jz Tryz.func177 Tryz.ntmps177 rfl kr rfl ?_;refine ρ ?_;refine ct ?_ ?_
 .exact decide_eq_true om
 refine ρ ?_;refine alc zXor ?_;intro w1 g a1 hg hB;have H1:=(DP.start hD hn).ext a1;refine ρ ?_;refine sto (hB.cell 0) (hB.frozen 0) ?_;have H2:=H1.box hB rfl hg (.int .u64 (IntKind.u64.wrap ((b:Int)-(a:Int))));have a7:=hB.set 0 (.int .u64 (IntKind.u64.wrap ((b:Int)-(a:Int))));refine ρ ?_;refine cl (Qhh (m:=b-a) (mi:=(b:Int)-(a:Int)) om om om _) ?_;rintro v w' ⟨G,rfl,ac,ab,rfl⟩;refine ρ ?_;refine qn (b-a) 4 ?_;refine ρ ?_;have hq:(b-a) / 4<=(b-a)/\3<=(b-a) / 4/\4*((b-a) / 4)<=b-a:=om
 refine Je (fun (idx:Nat) (q:List Pr)=>[(0,.slice A n c),(1,.int .i64 (a:Int)),(8,.int .i64 ((b:Int)-(a:Int))),(9,.pointer (some ⟨g,0,none⟩)),(10,.int .u64 (G:Int)),(11,.int .i64 (idx:Int))])
  (λidx q w'=>DP w w' base A n c ps q/\(∃ r:Int,Blk w' g 270 [.int .u64 r])/\a<=idx/\idx<=n/\Seg z0 a b ps q) (λidx _=>n-idx) (a+((b-a) / 4)*2-1) ps sO ⟨H2,⟨_,a7⟩,om,om,Seg.refl _ _ _⟩ ?_
 rintro idx q w3 ⟨H3,⟨r3,a6⟩,ae,hi,U⟩;refine ρ ?_;refine qn (b-a) 4 ?_;refine ρ ?_;refine ci (λh=>?_) (λh=>?_)
 .have a9:idx<=a+((b-a) / 4)*2+1:=by have:=oT h;omega
  refine ρ ?_;refine cl (Qvd H3 a6 hg) ?_;rintro v w4 ⟨r4,rfl,a2,aa,H4,Z⟩;refine ρ ?_;have ho:∃ o:Nat,bits .and .u64 r4 (IntKind.u64.wrap ((G:Int)-1))=(o:Int)/\o<2*(b-a):=by
   obtain ⟨r,rfl⟩:=Int.eq_ofNat_of_zero_le a2;have e:IntKind.u64.wrap ((G:Int)-1)=((G-1:Nat):Int):=by rw [Ut om];omega
   rw [e];refine ⟨r &&& (G-1),bits_and_u64_nat r (G-1) om om,?_⟩;have:=Nat.and_le_right (n:=r) (m:=G-1);omega
  obtain ⟨o,a3,ad⟩:=ho;refine Xt (fun (o:Nat)=>[(0,.slice A n c),(1,.int .i64 (a:Int)),(8,.int .i64 ((b:Int)-(a:Int))),(9,.pointer (some ⟨g,0,none⟩)),(10,.int .u64 (G:Int)),(11,.int .i64 (idx:Int)),(12,.int .i64 (o:Int))]) (λo w'=>DP w w' base A n c ps q/\Blk w' g 270 [.int .u64 r4]/\o<b-a) ?_ ?_
  .have a8:IntKind.i64.wrap (bits .and .u64 r4 (IntKind.u64.wrap ((G:Int)-1)))=(o:Int):=by rw [a3];exact Ga om
   rw [a8];refine ci (λh=>?_) (λh=>?_)
   .have h1:=oT h;refine ρ ?_;exact Jf (o-(b-a)) sO ⟨H4,Z,om⟩
   .have h1:=oF h;refine ρ ?_;exact Jf o sB ⟨H4,Z,om⟩
  rintro o w5 ⟨H5,a5,ho⟩;have J:idx<n:=om
  have O:a+o<n:=om
  refine ρ ?_;refine drC 4 [0,1,2,3,4,5,6,7,8,9,12,13] [(0,10),(0,11),(0,14),(0,15),(0,16),(2,17),(2,18),(2,19)] kr ?_;have C:=H5.drew;obtain ⟨s1,s2,s3,⟨u,s4⟩,s5,s6⟩:=C.swap J O;refine ρp ?_;refine dix (a+o) C.rd O ?_;refine ρd ?_;refine dld (C.cell O) ?_;refine ρd ?_;refine dix (idx) C.rd J ?_;refine ρd ?_;refine dld (C.cell J) ?_;refine ρd ?_;refine dix (idx) C.rd J ?_;refine ρd ?_;refine Ja ?_;refine sto (C.cell J) s1 ?_ (hv:=C.one O);refine ρ ?_;refine Qg ?_;refine Ja ?_;refine ix (a+o) s2 O ?_;refine ρ ?_;refine Qg ?_;refine Ja ?_;refine sto s4 s3 ?_ (hv:=C.one J);refine ρ ?_;have b5:=a5.ext (Ext.refl _).drew;have a4:=b5.grown s6 (b5.ne_own C.d.1 rfl);exact Jl (idx+1) (swp z0 q idx (a+o)) sO ⟨s5,⟨_,a4⟩,om,om,U.trans (Seg.swp om om om om (by rw [H5.l];exact hb))⟩ om
 .refine ρ ?_;exact Uf ⟨q,H3,U⟩
end Go.Proofs.YtebcagekopgdhaaGreatDoor
