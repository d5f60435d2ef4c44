/- Part 7. -/
import Derived.Test.YtebcagekopgdhaaGreatDoorB04
import Derived.Test.YtebcagekopgdhaaGreatDoorB06
set_option linter.unusedVariables false
set_option maxRecDepth 100000
set_option maxHeartbeats 40000000
namespace Go.Proofs.YtebcagekopgdhaaGreatDoor
open Pl
structure PreC{α:Type}(f:α->α->Int): Prop where
 anti:∀ a b,f b a = - f a b
 trans:∀ a b c,f a b<=0->f b c<=0->f a c<=0
theorem PreC.refl{α:Type}{f:α->α->Int}(h:PreC f)(a:α): f a a=0:=by have:=h.anti a a;omega
structure Cmp{α:Type}(f:α->α->Int): Prop where
 anti:∀ a b,f b a = - f a b
 zero:∀ a b,f a b=0->a=b
 trans:∀ a b c,f a b<=0->f b c<=0->f a c<=0
theorem Cmp.pre{α β:Type}{f:α->α->Int}(h:Cmp f)(g:β->α): PreC λa b=>f (g a) (g b):=⟨λa b=>h.anti _ _,λa b c=>h.trans _ _ _⟩
section
variable {α:Type} {f:α->α->Int}
theorem Cmp.refl(h:Cmp f)(a:α): f a a=0:=by have:=h.anti a a;omega
theorem Cmp.lt_le(h:Cmp f){a b c:α}(h1:f a b<0)(h2:f b c<=0): f a c<0:=by
 have o:=h.trans a b c om h2;rcases Int.lt_or_eq_of_le o with h4|h4
 .exact h4
 .have:=h.zero _ _ h4;subst this;have:=h.anti a b;omega
theorem Cmp.le_lt(h:Cmp f){a b c:α}(h1:f a b<=0)(h2:f b c<0): f a c<0:=by
 have o:=h.trans a b c h1 om;rcases Int.lt_or_eq_of_le o with h4|h4
 .exact h4
 .have:=h.zero _ _ h4;subst this;have:=h.anti a b;omega
theorem Cmp.lt_trans(h:Cmp f){a b c:α}(h1:f a b<0)(h2:f b c<0): f a c<0:=h.lt_le h1 om
theorem Cmp.tot(h:Cmp f)(a b:α): f a b<0∨a=b∨f b a<0:=by
 have o:=h.anti a b;rcases Int.lt_trichotomy (f a b) 0 with h2|h2|h2
 .exact .inl h2
 .exact .inr (.inl (h.zero _ _ h2))
 .exact .inr (.inr om)
theorem Cmp.flip(h:Cmp f): Cmp λa b=>- f a b :=
 ⟨λa b=>by rw [h.anti a b],λa b h0=>h.zero a b om,λa b c u o=>by
  have J:=h.anti a b;have G:=h.anti b c;have C:=h.anti a c;have:=h.trans c b a om om;omega⟩
end
theorem cmp_sgn: Cmp sgn:=by
 refine ⟨λa b=>?_,λa b h=>?_,λa b c u o=>?_⟩
 .unfold sgn;split<;>split<;>omega
 .unfold sgn at h;split at h
  .omega
  .split at h<;>omega
 .unfold sgn at *;by_cases e1:a<b<;>by_cases e2:b<a<;>by_cases e3:b<c<;>by_cases e4:c<b<;>by_cases e5:a<c<;>by_cases e6:c<a<;>simp_all<;>omega
theorem Jml(a b:Int): sgn a b = -1∨sgn a b=0∨sgn a b=1:=by
 unfold sgn;split
 .simp
 .split<;>simp
theorem Qjw: ∀ x y:List UInt8,Lib.compareBytes y x = - Lib.compareBytes x y
 | [],[]=>rfl
 | [],_::_=>rfl
 | _::_,[]=>rfl
 | a::x,b::y=>by
  simp only [Lib.compareBytes];have ih:=Qjw x y;simp only [UInt8.lt_iff_toNat_lt];by_cases h:a.toNat<b.toNat
  .rw [if_pos h,if_neg om,if_pos h];rfl
  .rw [if_neg h];by_cases h2:b.toNat<a.toNat
   .rw [if_pos h2,if_neg h,if_pos h2]
   .rw [if_neg h2,if_neg h,if_neg h2];exact ih
theorem Qjs: ∀ x y:List UInt8,Lib.compareBytes x y=0->x=y
 | [],[],_=>rfl
 | [],_::_,h=>by simp [Lib.compareBytes]at h
 | _::_,[],h=>by simp [Lib.compareBytes]at h
 | a::x,b::y,h=>by
  simp only [Lib.compareBytes,UInt8.lt_iff_toNat_lt]at h;split at h
  .cases h
  .split at h
   .cases h
   .rw [Qjs x y h,UInt8.toNat_inj.1 (show a.toNat=b.toNat by omega)]
theorem Qjt: ∀ x y z:List UInt8,Lib.compareBytes x y<=0->Lib.compareBytes y z<=0->Lib.compareBytes x z<=0
 | [],_,[],_,_=>by simp [Lib.compareBytes]
 | [],_,_::_,_,_=>by simp [Lib.compareBytes]
 | _::_,[],_,h,_=>by simp [Lib.compareBytes]at h
 | _::_,_::_,[],_,h=>by simp [Lib.compareBytes]at h
 | a::x,b::y,c::z,h1,h2=>by
  simp only [Lib.compareBytes,UInt8.lt_iff_toNat_lt]at *;split at h1
  .split at h2
   .rw [if_pos om];decide
   .split at h2
    .exact absurd h2 (by decide)
    .rw [if_pos om];decide
  .split at h1
   .exact absurd h1 (by decide)
   .split at h2
    .rw [if_pos om];decide
    .split at h2
     .exact absurd h2 (by decide)
     .rw [if_neg om,if_neg om];exact Qjt x y z h1 h2
theorem cb_3: ∀ x y:List UInt8,Lib.compareBytes x y = -1∨Lib.compareBytes x y=0∨Lib.compareBytes x y=1
 | [],[]=>by simp [Lib.compareBytes]
 | [],_::_=>by simp [Lib.compareBytes]
 | _::_,[]=>by simp [Lib.compareBytes]
 | a::x,b::y=>by
  simp only [Lib.compareBytes];split
  .simp
  .split
   .simp
   .exact cb_3 x y
theorem V.ext{a b:V}(h1:a.kind=b.kind)(h2:a.num=b.num)(h3:a.bytes=b.bytes): a=b:=by
 obtain ⟨k,n,s⟩:=a;obtain ⟨C,u,o⟩:=b;simp only [V.bytes]at *;obtain ⟨d⟩:=s;obtain ⟨G⟩:=o;simp only at h1 h2 h3;rw [h1,h2,Array.toList_inj.1 h3]
theorem Jwd{a b:Int}(h:a≠b): sgn a b≠0:=λe=>h (cmp_sgn.zero _ _ e)
theorem Qjc(a b:V): cmpV a b = -1∨cmpV a b=0∨cmpV a b=1:=by
 unfold cmpV;split
 .exact Jml _ _
 .split
  .exact Jml _ _
  .exact cb_3 _ _
theorem cmp_V: Cmp cmpV:=by
 refine ⟨λa b=>?_,λa b h=>?_,λa b c u o=>?_⟩
 .unfold cmpV;by_cases h:a.kind=b.kind
  .rw [if_neg (not_not_intro h),if_neg (not_not_intro h.symm)];by_cases o:a.num=b.num
   .rw [if_neg (not_not_intro o),if_neg (not_not_intro o.symm)];exact Qjw _ _
   .rw [if_pos o,if_pos (Ne.symm o)];exact cmp_sgn.anti _ _
  .rw [if_pos h,if_pos (Ne.symm h)];exact cmp_sgn.anti _ _
 .unfold cmpV at h;split at h
  .rename_i u;exact absurd h (Jwd u)
  .rename_i u;split at h
   .rename_i o;exact absurd h (Jwd o)
   .rename_i o;exact V.ext (by simpa using u) (by simpa using o) (Qjs _ _ h)
 .unfold cmpV at *;by_cases k1:a.kind=b.kind<;>by_cases k2:b.kind=c.kind
  .have J:a.kind=c.kind:=k1.trans k2;rw [if_neg (by simp [k1])]at u;rw [if_neg (by simp [k2])]at o;rw [if_neg (by simp [J])];by_cases n1:a.num=b.num<;>by_cases n2:b.num=c.num
   .rw [if_neg (by simp [n1])]at u;rw [if_neg (by simp [n2])]at o;rw [if_neg (by simp [n1,n2])];exact Qjt _ _ _ u o
   .rw [if_pos n2]at o;rw [n1,if_pos n2];exact o
   .rw [if_pos n1]at u;rw [<-n2,if_pos n1];exact u
   .rw [if_pos n1]at u;rw [if_pos n2]at o;have G:=cmp_sgn.lt_le (a:=a.num) (c:=c.num) (by have:=Jwd n1;omega) o;have C:a.num≠c.num:=by intro e;rw [e,cmp_sgn.refl]at G;omega
    rw [if_pos C];omega
  .rw [if_pos k2]at o;rw [k1,if_pos k2];exact o
  .rw [if_pos k1]at u;rw [<-k2,if_pos k1];exact u
  .rw [if_pos k1]at u;rw [if_pos k2]at o;have G:=cmp_sgn.lt_le (a:=a.kind) (c:=c.kind) (by have:=Jwd k1;omega) o;have C:a.kind≠c.kind:=by intro e;rw [e,cmp_sgn.refl]at G;omega
   rw [if_pos C];omega
theorem Zv(a:V): cmpV a a=0:=cmp_V.refl a
theorem Jpt(d:Bool): neg d 0=0:=by cases d<;>rfl
theorem Jkb(d:Bool): Cmp λa b=>neg d (cmpV a b):=by
 cases d
 .exact cmp_V
 .exact cmp_V.flip
theorem Jkc: ∀ (a b:List V) (ds:List Bool),Jw b a ds = - Jw a b ds
 | [],[],_=>rfl
 | [],_::_,_=>rfl
 | _::_,[],_=>rfl
 | x::a,y::b,ds=>by
  simp only [Jw];have h:=cmp_V.anti x y;by_cases e:cmpV x y=0
  .rw [if_pos e,if_pos om];exact Jkc a b _
  .rw [if_neg e,if_neg om];exact (Jkb _).anti x y
theorem Jxc: ∀ (a b:List V) (ds:List Bool),Jw a b ds=0->a=b
 | [],[],_,_=>rfl
 | [],_::_,_,h=>by simp [Jw]at h
 | _::_,[],_,h=>by simp [Jw]at h
 | x::a,y::b,ds,h=>by
  simp only [Jw]at h;split at h
  .rename_i e;rw [cmp_V.zero _ _ e,Jxc a b _ h]
  .rename_i e;exact absurd (congrArg (cmpV x) ((Jkb _).zero x y h)) (by rw [Zv];intro e2;exact e e2.symm)
theorem Jvt: ∀ (a b c:List V) (ds:List Bool),Jw a b ds<=0->Jw b c ds<=0->Jw a c ds<=0
 | [],_,[],_,_,_=>by simp [Jw]
 | [],_,_::_,_,_,_=>by simp [Jw]
 | _::_,[],_,_,h,_=>by simp [Jw]at h
 | _::_,_::_,[],_,_,h=>by simp [Jw]at h
 | x::a,y::b,z::c,ds,h1,h2=>by
  simp only [Jw]at *;have N:=Jkb (ds.getD 0 false);by_cases e1:cmpV x y=0
  .rw [if_pos e1]at h1;rw [cmp_V.zero _ _ e1];by_cases e2:cmpV y z=0
   .rw [if_pos e2]at h2 ⊢;exact Jvt a b c _ h1 h2
   .rw [if_neg e2]at h2 ⊢;exact h2
  .rw [if_neg e1]at h1;by_cases e2:cmpV y z=0
   .rw [<-cmp_V.zero _ _ e2,if_neg e1];exact h1
   .rw [if_neg e2]at h2;have hne:neg (ds.getD 0 false) (cmpV x y)≠0:=λe=>e1 (by have:=N.zero x y e;rw [this];exact Zv y);have h3:=N.lt_le (a:=x) (b:=y) (c:=z) om h2;have e3:cmpV x z≠0:=by intro e;simp only [e,Jpt]at h3;omega
    rw [if_neg e3];omega
theorem Uo(ds:List Bool): Cmp λa b=>Jw a b ds:=⟨λa b=>Jkc a b ds,λa b h=>Jxc a b ds h,λa b c u o=>Jvt a b c ds u o⟩
theorem Vo(a:List V)(ds:List Bool): Jw a a ds=0:=(Uo ds).refl a
open Go.RowKit Pl Go.Wk
attribute [local irreducible] WC WL QX WD WDB
def RowV(w:World)(v:Value)(r:List V): Prop:=∃ A c,v=.slice A r.length c/\r.length<=c/\r.length<=1100000/\RdR w A r
def BoolsV(w:World)(v:Value)(ds:List Bool): Prop:=∃ A c,v=.slice A ds.length c/\ds.length<=c/\ds.length<=1100000/\RdB w A ds
theorem RowV.ext{w w':World}{v:Value}{r:List V}(h:RowV w v r)(hx:Ext w w'): RowV w' v r:=by
 obtain ⟨A,c,G,C,u,o⟩:=h;exact ⟨A,c,G,C,u,o.ext hx⟩
theorem BoolsV.ext{w w':World}{v:Value}{r:List Bool}(h:BoolsV w v r)(hx:Ext w w'): BoolsV w' v r:=by
 obtain ⟨A,c,G,C,u,o⟩:=h;exact ⟨A,c,G,C,u,o.ext hx⟩
theorem RowV.nil(w:World)(A:Option Addr)(c:Nat): RowV w (.slice A 0 c) []:=⟨A,c,rfl,by simp,by simp,Rd.nil⟩
theorem BoolsV.nil(w:World)(A:Option Addr)(c:Nat): BoolsV w (.slice A 0 c) []:=⟨A,c,rfl,by simp,by simp,Rd.nil⟩
theorem Qjl{a b:List V}{ds:List Bool}{k:Nat}(ha:k<a.length)(hb:k<b.length): Jw (a.drop k) (b.drop k) (ds.drop k) =
  if cmpV (a.getD k V0) (b.getD k V0)=0 then Jw (a.drop (k+1)) (b.drop (k+1)) (ds.drop (k+1)) else neg (ds.getD k false) (cmpV (a.getD k V0) (b.getD k V0)):=by
 rw [List.drop_eq_getElem_cons ha,List.drop_eq_getElem_cons hb,Jw];have C:a.getD k V0=a[k]:=by simp [List.getD,List.getElem?_eq_getElem ha]
 have u:b.getD k V0=b[k]:=by simp [List.getD,List.getElem?_eq_getElem hb]
 have o:(ds.drop k).getD 0 false=ds.getD k false:=by simp [List.getD,List.getElem?_drop]
 rw [C,u,o,List.drop_drop]
theorem Qjh{a b:List V}{ds:List Bool}{k:Nat}(hk:a.length<=k∨b.length<=k)(hka:k<=a.length)(hkb:k<=b.length): Jw (a.drop k) (b.drop k) (ds.drop k)=if a.length<b.length then -1 else if b.length<a.length then 1 else 0:=by
 rcases Nat.lt_trichotomy a.length b.length with h|h|h
 .rw [if_pos h,List.drop_of_length_le (by omega:a.length<=k),List.drop_eq_getElem_cons (by omega:k<b.length)];rfl
 .rw [if_neg om,if_neg om,List.drop_of_length_le (by omega:a.length<=k),List.drop_of_length_le (by omega:b.length<=k)];rfl
 .rw [if_neg om,if_pos h,List.drop_of_length_le (by omega:b.length<=k),List.drop_eq_getElem_cons (by omega:k<a.length)];rfl
theorem Jgs(a b:V): IntKind.i64.wrap (0-cmpV a b)=neg true (cmpV a b):=by
 rcases Qjc a b with h|h|h<;>rw [h]<;>rfl
theorem Qds(n m:Nat): (if (m:Int)<(n:Int) then (m:Int) else (n:Int))=((min n m:Nat):Int):=by split<;>omega
theorem Qls{va vb vd:Value}{a b:List V}{ds:List Bool}{w:World}(ha:RowV w va a)(hb:RowV w vb b)(hd:BoolsV w vd ds):
  Ret Tryz.prog 51 [va,vb,vd] w λr w'=>r=.int .i64 (Jw a b ds)/\Ext w w':=by
 obtain ⟨A,ac,rfl,ak,aj,ha⟩:=ha;obtain ⟨B,bc,rfl,ai,ah,hb⟩:=hb;obtain ⟨D,dc,rfl,af,ae,hd⟩:=hd;refine Jz Tryz.func51 Tryz.ntmps51 rfl kr rfl ?_;refine ρ ?_;rw [Qds];refine Qd (λk=>[(0,.slice A a.length ac),(1,.slice B b.length bc),(2,.slice D ds.length dc),(13,.int .i64 ((min a.length b.length:Nat):Int)),(14,.int .i64 ((k:Nat):Int))])
  (λk w'=>Ext w w'/\k<=a.length/\k<=b.length/\Jw a b ds=Jw (a.drop k) (b.drop k) (ds.drop k)) (λk=>a.length-k) 0 sB ⟨Ext.refl w,Nat.zero_le _,Nat.zero_le _,rfl⟩ ?_
 rintro k w1 ⟨J,a9,a8,he⟩;have ab:=ha.ext J;have aa:=hb.ext J;have ag:=hd.ext J;refine ρ ?_;have a7:(a.length<=k∨b.length<=k)->Jw a b ds=if a.length<b.length then -1 else if b.length<a.length then 1 else 0:=λh=>by rw [he,Qjh h a9 a8]
 refine ci (λh=>?_) (λh=>?_)
 .have ad:k<min a.length b.length:=by have:=oT h;omega
  have Z:k<a.length:=om
  have U:k<b.length:=om
  refine ρ ?_;refine dr [(0,0),(0,1),(0,2),(0,3),(0,4),(0,5),(0,6),(0,7),(1,8),(0,9)] kr ?_;have G:Ext w1 w1.drew:=(Ext.refl w1).drew;have a6:=ab.ext G;have a5:=aa.ext G;refine ρd ?_;refine Gs 3 k a6 Z ?_;refine ρd ?_;refine Qk (λj u hu=>RdR.cell a6 Z hu) ?_;refine ρd ?_;refine Gs 3 k a5 U ?_;refine ρd ?_;refine Qk (λj u hu=>RdR.cell a5 U hu) ?_;refine ρd ?_;refine dcl (Jjh (a.getD k V0) (b.getD k V0) _) ?_;rintro x w2 ⟨rfl,a2⟩;refine ⟨a2,?_⟩;have o:Ext w w2:=(J.trans G).trans a2;have a4:=hd.ext o;refine ρd ?_;refine ρ ?_;have step:=Qjl (ds:=ds) Z U;refine ci (λh0=>?_) (λh0=>?_)
  .refine ρ ?_;refine Qw (k+1) sB ⟨o,om,om,?_⟩ om;rw [he,step,if_pos (Xf h0)]
  have O:=Xg h0;refine ρ ?_;refine ki 32 (λh=>?_) (λh=>?_)
  .have a3:k<ds.length:=by have:=oT h;omega
   refine ρ ?_;refine ix k a4 a3 ?_;refine ρ ?_;refine ld (RdB.cell a4 a3) ?_;refine ρ ?_;refine ci (λC=>?_) (λC=>?_)
   .refine ρ ?_;refine Jj ⟨?_,o⟩;rw [Jgs,he,step,C,if_neg O]
   .refine ρ ?_;refine Jj ⟨?_,o⟩;rw [he,step,C,if_neg O];rfl
  .have C:ds.getD k false=false:=by
    have:=oF h;simp [List.getD,List.getElem?_eq_none (show ds.length<=k by omega)]
   refine ρ ?_;refine Jj ⟨?_,o⟩;rw [he,step,C,if_neg O];rfl
 .have a1:=a7 (by have:=oF h;omega);refine ρ ?_;refine ci (λh=>?_) (λC=>?_)
  .refine ρ ?_;refine Jj ⟨?_,J⟩;rw [a1,if_pos (by have:=oT h;omega)]
  refine ρ ?_;refine ci (λh=>?_) (λh2=>?_)
  .refine ρ ?_;refine Jj ⟨?_,J⟩;rw [a1,if_neg (by have:=oF C;omega),if_pos (by have:=oT h;omega)]
  .refine ρ ?_;refine Jj ⟨?_,J⟩;rw [a1,if_neg (by have:=oF C;omega),if_neg (by have:=oF h2;omega)]
theorem Jnb{va vb:Value}{a b:List V}{w:World}(ha:RowV w va a)(hb:RowV w vb b):
  Ret Tryz.prog 121 [va,vb] w λr w'=>r=.int .i64 (Jw a b [])/\Ext w w':=by
 refine Jz Tryz.func121 Tryz.ntmps121 rfl kr rfl ?_;refine ρ ?_;refine cl (Qls ha hb (BoolsV.nil w none 0)) ?_;rintro v u ⟨rfl,o⟩;refine ρ ?_;exact Jj ⟨rfl,o⟩
theorem Qmk(a b:List V)(ds:List Bool): (Jw a b ds == 0)=true↔a=b:=by
 constructor
 .intro h;exact Jxc _ _ _ (Xf h)
 .intro h;rw [h,Vo];rfl
instance:DecidableEq V:=λa b=>if h:cmpV a b=0 then isTrue (cmp_V.zero _ _ h) else isFalse (λe=>h (by rw [e];exact Zv b))
theorem Qmj(a b:List V)(ds:List Bool): (Jw a b ds == 0)=decide (a=b):=by
 rw [Bool.eq_iff_iff,Qmk,decide_eq_true_iff]
theorem Jmz{va vb:Value}{a b:List V}{w:World}(ha:RowV w va a)(hb:RowV w vb b):
  Ret Tryz.prog 124 [va,vb] w λr w'=>r=.bool (decide (a=b))/\Ext w w':=by
 refine Jz Tryz.func124 Tryz.ntmps124 rfl kr rfl ?_;refine ρ ?_;refine cl (Jnb ha hb) ?_;rintro v u ⟨rfl,o⟩;refine ρ ?_;refine Jj ⟨?_,o⟩;rw [Qmj]
open Go.RowKit Pl Go.Wk
attribute [local irreducible] WP
def Ju(x:Nat): Nat:=if x=0 then 0 else Nat.log2 x+1
theorem Jdf{x:Nat}: x<2^Ju x:=by
 unfold Ju;split
 .omega
 .exact Nat.lt_log2_self
theorem Jrr{x:Nat}(h:x≠0): 0<Ju x/\2^(Ju x-1)<=x:=by
 unfold Ju;rw [if_neg h];exact ⟨om,by simpa using Nat.log2_self_le h⟩
theorem Jqp{x k:Nat}(h:x<2^k): Ju x<=k:=by
 unfold Ju;split
 .omega
 .rename_i h0;have:=(Nat.log2_lt h0).2 h;omega
theorem Qfn{x k:Nat}(h1:2^k<=x)(h2:x<2^(k+1)): Ju x=k+1:=by
 have u:=Jqp h2;have o:=Jdf (x:=x);rcases Nat.lt_or_ge (Ju x) (k+1) with h|h
 .have:=Nat.pow_le_pow_right (show 0<2 by omega) (show Ju x<=k by omega);omega
 .omega
theorem Jzh{x k:Nat}(h:2^k<=x): Ju x=k+Ju (x / 2^k):=by
 have o:0<2^k:=Nat.pow_pos om;have u:x / 2^k≠0:=by
  have:=(Nat.le_div_iff_mul_le o).2 (show 1*2^k<=x by omega);omega
 obtain ⟨a,b⟩:=Jrr u;have c:=Jdf (x:=x / 2^k);generalize Ju (x / 2^k)=m at *
 obtain ⟨m,rfl⟩:∃ j,m=j+1:=⟨m-1,om⟩;rw [Nat.add_sub_cancel]at b;have:=Qfn (x:=x) (k:=k+m) (by rw [Nat.pow_add];have:=(Nat.le_div_iff_mul_le o).1 b;rw [Nat.mul_comm];exact this) (by
  rw [show k+m+1=(m+1)+k by omega,Nat.pow_add];exact (Nat.div_lt_iff_lt_mul o).1 c)
 omega
theorem tabB(s:ByteArray)(h:((List.range 256).all λj=>(s.data.toList.getD j 0).toNat == Ju j)=true){j:Nat}(hj:j<256): (s.data.toList.getD j 0).toNat=Ju j:=by
 have:=List.all_eq_true.1 h j (List.mem_range.2 hj);simpa using this
theorem Jxt(y k m:Nat): ((y:Int)).fdiv (2^(min ((k:Nat):Int).toNat m))=((y / 2^(min k m):Nat):Int):=by
 rw [Int.toNat_natCast,Int.fdiv_eq_ediv_of_nonneg _ (Int.le_of_lt (Int.pow_pos om))];rw [Int.natCast_ediv];rfl
theorem Qfp(x:Nat)(hx:x<18446744073709551616)(w:World): Ret Tryz.prog 140 [.int .u64 (x:Int)] w λv w'=>v=.int .i64 (Ju x:Int)/\w'=w:=by
 refine Jz Tryz.func140 Tryz.ntmps140 rfl kr rfl ?_;refine ρ ?_;refine Kr (fun (y s:Nat)=>[(0,.int .u64 (y:Int)),(2,.int .i64 (s:Int))]) (λy s w'=>w'=w/\Ju x=s+Ju y/\y<4294967296/\s<=32) ?_ ?_
 .refine ci (λh=>?_) (λh=>?_)
  .have G:=oT h;refine ρ ?_;refine Yw rfl rfl (by decide) rfl ?_;refine kv 6 (u:=.int .u64 ((x / 2^32:Nat):Int)) (congrArg (Value.int .u64) (Jxt x 32 64)) ?_;refine ρ ?_;have e:=Jzh (x:=x) (k:=32) om;exact Zn (x / 2^32) 32 sO ⟨rfl,e,om,om⟩
  .have G:=oF h;refine ρ ?_;exact Zn x 0 sO ⟨rfl,om,om,om⟩
 rintro C U w ⟨rfl,e0,b0,c0⟩;refine ρ ?_;refine Kr (fun (y s:Nat)=>[(0,.int .u64 (y:Int)),(2,.int .i64 (s:Int))]) (λy s w'=>w'=w/\Ju x=s+Ju y/\y<65536/\s<=48) ?_ ?_
 .refine ci (λh=>?_) (λh=>?_)
  .have G:=oT h;refine ρ ?_;refine Yw rfl rfl (by decide) rfl ?_;refine kv 10 (u:=.int .u64 ((C / 2^16:Nat):Int)) (congrArg (Value.int .u64) (Jxt C 16 64)) ?_;refine ρ ?_;have e:=Jzh (x:=C) (k:=16) om;exact Zn (C / 2^16) (U+16) sO ⟨rfl,om,om,om⟩
  .have G:=oF h;refine ρ ?_;exact Zn C U sO ⟨rfl,om,om,om⟩
 rintro o O w ⟨rfl,e1,b1,c1⟩;refine ρ ?_;refine Kr (fun (y s:Nat)=>[(0,.int .u64 (y:Int)),(2,.int .i64 (s:Int))]) (λy s w'=>w'=w/\Ju x=s+Ju y/\y<256/\s<=56) ?_ ?_
 .refine ci (λh=>?_) (λh=>?_)
  .have G:=oT h;refine ρ ?_;refine Yw rfl rfl (by decide) rfl ?_;refine kv 16 (u:=.int .u64 ((o / 2^8:Nat):Int)) (congrArg (Value.int .u64) (Jxt o 8 64)) ?_;refine ρ ?_;have e:=Jzh (x:=o) (k:=8) om;exact Zn (o / 2^8) (O+8) sO ⟨rfl,om,om,om⟩
  .have G:=oF h;refine ρ ?_;exact Zn o O sO ⟨rfl,om,om,om⟩
 rintro J s2 w ⟨rfl,e2,Z,c2⟩;refine ρ ?_;refine Jgr Jxp J rfl rfl rfl rfl ?_ ?_ rfl ?_
 .rw [IntKind.wrap_u8];omega
 .exact nM Z (by decide)
 refine kv 22 (u:=.int .u8 (Ju J:Int)) (congrArg (λz:Nat=>Value.int .u8 (z:Int)) (tabB _ kr Z)) ?_;have:=Jqp (x:=J) (k:=8) om;refine ρ ?_;refine Jj ⟨?_,rfl⟩;rw [Gm (z:=(Ju J:Int)) om,Gm om];congr 1;omega
theorem Jrs(x:Nat)(hx:x<4294967296)(w:World): Ret Tryz.prog 139 [.int .u32 (x:Int)] w λv w'=>v=.int .i64 (Ju x:Int)/\w'=w:=by
 refine Jz Tryz.func139 Tryz.ntmps139 rfl kr rfl ?_;refine ρ ?_;refine Kr (fun (y s:Nat)=>[(0,.int .u32 (y:Int)),(2,.int .i64 (s:Int))]) (λy s w'=>w'=w/\Ju x=s+Ju y/\y<65536/\s<=16) ?_ ?_
 .refine ci (λh=>?_) (λh=>?_)
  .have G:=oT h;refine ρ ?_;refine Yw rfl rfl (by decide) rfl ?_;refine kv 6 (u:=.int .u32 ((x / 2^16:Nat):Int)) (congrArg (Value.int .u32) (Jxt x 16 32)) ?_;refine ρ ?_;have e:=Jzh (x:=x) (k:=16) om;exact Zn (x / 2^16) 16 sO ⟨rfl,e,om,om⟩
  .have G:=oF h;refine ρ ?_;exact Zn x 0 sO ⟨rfl,om,om,om⟩
 rintro o J w ⟨rfl,e0,b0,c0⟩;refine ρ ?_;refine Kr (fun (y s:Nat)=>[(0,.int .u32 (y:Int)),(2,.int .i64 (s:Int))]) (λy s w'=>w'=w/\Ju x=s+Ju y/\y<256/\s<=24) ?_ ?_
 .refine ci (λh=>?_) (λh=>?_)
  .have G:=oT h;refine ρ ?_;refine Yw rfl rfl (by decide) rfl ?_;refine kv 10 (u:=.int .u32 ((o / 2^8:Nat):Int)) (congrArg (Value.int .u32) (Jxt o 8 32)) ?_;refine ρ ?_;have e:=Jzh (x:=o) (k:=8) om;exact Zn (o / 2^8) (J+8) sO ⟨rfl,om,om,om⟩
  .have G:=oF h;refine ρ ?_;exact Zn o J sO ⟨rfl,om,om,om⟩
 rintro C U w ⟨rfl,Z,O,c1⟩;refine ρ ?_;refine Jgr Jxp C rfl rfl rfl rfl ?_ ?_ rfl ?_
 .rw [IntKind.wrap_u8];omega
 .exact nM O (by decide)
 refine kv 16 (u:=.int .u8 (Ju C:Int)) (congrArg (λz:Nat=>Value.int .u8 (z:Int)) (tabB _ kr O)) ?_;have:=Jqp (x:=C) (k:=8) om;refine ρ ?_;refine Jj ⟨?_,rfl⟩;rw [Gm (z:=(Ju C:Int)) om,Gm om];congr 1;omega
theorem Qqn(x:Nat)(h:x<18446744073709551616)(w:World): Ret Tryz.prog 88 [.int .u64 (x:Int)] w λv w'=>v=.int .i64 (Ju x:Int)/\w'=w:=by
 refine Jz Tryz.func88 Tryz.ntmps88 rfl kr rfl ?_;refine ρ ?_;refine cl (Qfp x h w) ?_;rintro v w' ⟨rfl,rfl⟩;refine ρ ?_;exact Jj ⟨rfl,rfl⟩
end Go.Proofs.YtebcagekopgdhaaGreatDoor
namespace Go.Proofs.YtebcagekopgdhaaGreatDoor
section
variable {α:Type} (z:α)
def swp(q:List α)(i j:Nat): List α:=(q.set i (q.getD j z)).set j (q.getD i z)
theorem Qwr(q:List α)(i j:Nat): (swp z q i j).length=q.length:=by simp [swp]
theorem Jqt(q:List α)(i k:Nat)(x:α)(hi:i<q.length): (q.set i x).getD k z=if k=i then x else q.getD k z:=by
 simp only [List.getD,List.getElem?_set];by_cases h:i=k
 .subst h;simp [hi]
 .rw [if_neg h,if_neg (Ne.symm h)]
theorem Jbd(q:List α){i j:Nat}(hi:i<q.length)(hj:j<q.length)(k:Nat): (swp z q i j).getD k z=if k=j then q.getD i z else if k=i then q.getD j z else q.getD k z:=by
 unfold swp;rw [Jqt z _ _ _ _ (by simpa using hj),Jqt z _ _ _ _ hi]
theorem Jp(q:List α){i:Nat}(h:i<q.length): q.getD i z=q[i]:=by simp [List.getD,List.getElem?_eq_getElem h]
theorem Jlm(q:List α){i j:Nat}(hi:i<q.length)(hj:j<q.length): (swp z q i j).Perm q:=by
 unfold swp;rw [Jp z q hi,Jp z q hj];exact List.set_set_perm hi hj
theorem getD_mem'(q:List α){i:Nat}(h:i<q.length): q.getD i z∈q:=by rw [Jp z q h];exact List.getElem_mem h
structure Seg(a b:Nat)(q q':List α): Prop where
 perm:q'.Perm q
 lo:∀ k,k<a->q'.getD k z=q.getD k z
 hi:∀ k,b<=k->q'.getD k z=q.getD k z
variable {z}
theorem Seg.len{a b:Nat}{q q':List α}(h:Seg z a b q q'): q'.length=q.length:=h.perm.length_eq
theorem Seg.refl(a b:Nat)(q:List α): Seg z a b q q:=⟨List.Perm.refl _,λ_ _=>rfl,λ_ _=>rfl⟩
theorem Seg.trans{a b:Nat}{q q' q'':List α}(h:Seg z a b q q')(k:Seg z a b q' q''): Seg z a b q q'' :=
 ⟨k.perm.trans h.perm,λi hi=>(k.lo i hi).trans (h.lo i hi),λi hi=>(k.hi i hi).trans (h.hi i hi)⟩
theorem Seg.mono{a b a' b':Nat}{q q':List α}(h:Seg z a b q q')(h1:a'<=a)(h2:b<=b'): Seg z a' b' q q' :=
 ⟨h.perm,λi hi=>h.lo i om,λi hi=>h.hi i om⟩
theorem Seg.swp{a b i j:Nat}{q:List α}(h1:a<=i)(h2:i<b)(h3:a<=j)(h4:j<b)(hb:b<=q.length): Seg z a b q (swp z q i j) :=
 ⟨Jlm z q om om,λk o=>by rw [Jbd z q om om,if_neg om,if_neg om],λk o=>by rw [Jbd z q om om,if_neg om,if_neg om]⟩
theorem Jst{q q':List α}(hl:q'.length=q.length)(h:∀ k,k<q.length->q'.getD k z=q.getD k z): q'=q:=by
 apply List.ext_getElem hl
 intro i u o;have:=h i o;rw [Jp z q o,Jp z q' u]at this;exact this
theorem getD_take(q:List α)(a k:Nat)(h:k<a): (q.take a).getD k z=q.getD k z:=by simp [List.getD,h]
theorem Jvl(q:List α)(a k:Nat): (q.drop a).getD k z=q.getD (a+k) z:=by simp [List.getD,List.getElem?_drop]
theorem Seg.all{a b:Nat}{q q':List α}(h:Seg z a b q q')(hab:a<=b)(hb:b<=q.length){Φ:α->Prop}(H:∀ k,a<=k->k<b->Φ (q.getD k z)): ∀ k,a<=k->k<b->Φ (q'.getD k z):=by
 intro k h1 U;have C:=h.len;have e1:q'.take a=q.take a:=Jst (z:=z) (by simp [C]) (λi hi=>by
  have o:i<a:=by simp at hi;omega
  rw [getD_take _ _ _ o,getD_take _ _ _ o];exact h.lo i o)
 have Z:q'.drop b=q.drop b:=Jst (z:=z) (by simp [C]) (λi hi=>by
  rw [Jvl,Jvl];exact h.hi _ om)
 have s:∀ l:List α,l=l.take a++((l.take b).drop a++l.drop b):=λl=>by
  rw [<-List.append_assoc];have:l.take a=(l.take b).take a:=by rw [List.take_take];congr 1;omega
  rw [this,List.take_append_drop,List.take_append_drop]
 have p:=h.perm;rw [s q',s q,e1,Z]at p;have G:=(List.perm_append_right_iff _).1 ((List.perm_append_left_iff _).1 p);have J:q'.getD k z∈(q'.take b).drop a:=by
  have e:((q'.take b).drop a).getD (k-a) z=q'.getD k z:=by
   rw [Jvl,show a+(k-a)=k by omega,getD_take _ _ _ U]
  rw [<-e];apply getD_mem'
  simp [C];omega
 have u:=G.mem_iff.1 J;obtain ⟨i,hi,O⟩:=List.getElem_of_mem u;have:((q.take b).drop a).getD i z=q'.getD k z:=by rw [Jp z _ hi,O]
 have o:i+a<b:=by simp at hi;omega
 rw [<-this,Jvl,getD_take _ _ _ om];exact H _ om om
end
section
variable {α:Type} (z:α) (f:α->α->Int)
def SOn(q:List α)(a b:Nat): Prop:=∀ i j,a<=i->i<j->j<b->f (q.getD i z) (q.getD j z)<=0
variable {z f}
theorem SOn.mono{q:List α}{a b a' b':Nat}(h:SOn z f q a b)(h1:a<=a')(h2:b'<=b): SOn z f q a' b':=λi j hi o u=>h i j om o om
theorem SOn.same{q q':List α}{a b:Nat}(h:SOn z f q a b)(he:∀ k,a<=k->k<b->q'.getD k z=q.getD k z): SOn z f q' a b:=λi j hi o u=>by
 rw [he i hi om,he j om u];exact h i j hi o u
theorem SOn.one(q:List α){a b:Nat}(h:b<=a+1): SOn z f q a b:=λi j hi o u=>by omega
def InsI(z:α)(f:α->α->Int)(q:List α)(a i j:Nat): Prop:=a<=j/\j<=i/\(∀ k m,a<=k->k<m->m<=i->k≠j->m≠j->f (q.getD k z) (q.getD m z)<=0)/\(∀ m,j<m->m<=i->f (q.getD j z) (q.getD m z)<=0)
theorem InsI.start{q:List α}{a i:Nat}(h:SOn z f q a i)(hi:a<=i): InsI z f q a i i :=
 ⟨hi,Nat.le_refl _,λk m u o J G C=>h k m u o om,λm u o=>om⟩
theorem InsI.step{q:List α}{a i j:Nat}(h:InsI z f q a i j)(hj:a<j)(hi:i<q.length)(hlt:f (q.getD j z) (q.getD (j-1) z)<0): InsI z f (swp z q j (j-1)) a i (j-1):=by
 obtain ⟨h1,Z,C,U⟩:=h;have s:=λk=>Jbd z q (i:=j) (j:=j-1) om om k;refine ⟨om,om,λk m u o G O J=>?_,λm u o=>?_⟩
 .rw [s,s,if_neg O,if_neg J];by_cases e:k=j
  .subst e;rw [if_pos rfl,if_neg om];exact C (k-1) m om om G om om
  .rw [if_neg e];by_cases e2:m=j
   .subst e2;rw [if_pos rfl];exact C k (m-1) u om om e om
   .rw [if_neg e2];exact C k m u o G e e2
 .rw [s,s,if_pos rfl,if_neg om];by_cases e2:m=j
  .rw [if_pos e2];omega
  .rw [if_neg e2];exact U m om o
theorem InsI.done0{q:List α}{a i:Nat}(h:InsI z f q a i a): SOn z f q a (i+1):=by
 obtain ⟨U,O,G,C⟩:=h;intro k m u o J;by_cases e:k=a
 .subst e;exact C m o om
 .exact G k m u o om e om
theorem InsI.done{q:List α}{a i j:Nat}(hf:PreC f)(h:InsI z f q a i j)(hj:a<j)(hge:¬ f (q.getD j z) (q.getD (j-1) z)<0): SOn z f q a (i+1):=by
 obtain ⟨Z,U,G,J⟩:=h;have o:f (q.getD (j-1) z) (q.getD j z)<=0:=by have:=hf.anti (q.getD j z) (q.getD (j-1) z);omega
 intro k m C u O;by_cases e:k=j
 .subst e;exact J m u om
 .by_cases e2:m=j
  .subst e2;by_cases e3:k=m-1
   .rw [e3];exact o
   .exact hf.trans _ _ _ (G k (m-1) C om om e om) o
  .exact G k m C u om e e2
end
open Go.RowKit Pl Go.Wk
attribute [local irreducible] WC WL QX WD WDB WP
abbrev Pr:= Value×List V
def z0: Pr:=(undef,[])
def Dat(w:World)(base:Nat)(v:Value)(ps:List Pr): Prop:=w.ownsRow base 37 1 v ps.length (ps.map (·.1))/\∀ p∈ps,p.1.oneCell'=true
theorem Dat.ext{w w':World}{base:Nat}{v:Value}{ps:List Pr}(h:Dat w base v ps)(hx:Ext w w'): Dat w' base v ps:=⟨Jk h.1 hx,h.2⟩
theorem Dat.rd{w:World}{base:Nat}{A:Option Addr}{n c:Nat}{ps:List Pr}(h:Dat w base (.slice A n c) ps)(hn:ps.length=n): Rd w 1 A n (ps.map (·.1)):=by
 have:=h.1;rw [hn]at this;exact Rd.own this
theorem Iw{ps:List Pr}{i:Nat}(h:i<ps.length): (ps.map (·.1))[i]?=some (ps.getD i z0).1:=by simp [List.getD,List.getElem?_eq_getElem h]
theorem Dat.cell{w:World}{base:Nat}{A:Option Addr}{n c:Nat}{ps:List Pr}(h:Dat w base (.slice A n c) ps)(hn:ps.length=n){i:Nat}(hi:i<n): w.cell? (adr A i)=some (ps.getD i z0).1 :=
 (h.rd hn).cell (Iw om)
theorem Dat.one{w:World}{base:Nat}{v:Value}{ps:List Pr}(h:Dat w base v ps){i:Nat}(hi:i<ps.length): (ps.getD i z0).1.oneCell'=true:=h.2 _ (getD_mem' z0 ps hi)
theorem Dat.store{w:World}{base:Nat}{A:Option Addr}{n c:Nat}{ps:List Pr}(h:Dat w base (.slice A n c) ps)(hn:ps.length=n){i:Nat}(hi:i<n){p:Pr}(hp:p.1.oneCell'=true):
  w.frozen? (adr A i)=false/\Dat (w.setCell (adr A i) p.1) base (.slice A n c) (ps.set i p)/\w.grownBy (w.setCell (adr A i) p.1) (Value.slice A n c).ownBlock:=by
 have o:=h.1;rw [hn]at o;obtain ⟨U,G,C,O,u⟩:=Zd o (q:=i) om p.1;refine ⟨G,⟨?_,λq J=>?_⟩,u⟩
 .rw [List.length_set,hn,List.map_set];exact C
 .rcases List.mem_or_eq_of_mem_set J with h'|h'
  .exact h.2 q h'
  .rw [h'];exact hp
theorem Dat.swap{w:World}{base:Nat}{A:Option Addr}{n c:Nat}{ps:List Pr}(h:Dat w base (.slice A n c) ps)(hn:ps.length=n){i j:Nat}(hi:i<n)(hj:j<n):
  w.frozen? (adr A i)=false/\Rd (w.setCell (adr A i) (ps.getD j z0).1) 1 A n ((ps.set i (ps.getD j z0)).map (·.1))/\(w.setCell (adr A i) (ps.getD j z0).1).frozen? (adr A j)=false /\
  (∃ u,(w.setCell (adr A i) (ps.getD j z0).1).cell? (adr A j)=some u)/\Dat ((w.setCell (adr A i) (ps.getD j z0).1).setCell (adr A j) (ps.getD i z0).1) base (.slice A n c) (swp z0 ps i j) /\
  w.grownBy ((w.setCell (adr A i) (ps.getD j z0).1).setCell (adr A j) (ps.getD i z0).1) (Value.slice A n c).ownBlock:=by
 obtain ⟨Z,C,U⟩:=h.store hn hi (p:=ps.getD j z0) (h.one om);have o:(ps.set i (ps.getD j z0)).length=n:=by simp [hn]
 obtain ⟨O,J,G⟩:=C.store o hj (p:=ps.getD i z0) (h.one om);exact ⟨Z,C.rd o,O,⟨_,C.cell o hj⟩,J,Zx U G⟩
def fP(ds:List Bool)(p q:Pr): Int:=Jw p.2 q.2 ds
theorem preP(ds:List Bool): PreC (fP ds):=(Uo ds).pre (β:=Pr) (λp=>p.2)
def CmpF(w:World)(row:Option Nat)(fv:Value)(M:List Pr)(ds:List Bool): Prop:=∃ fid first cap,fv=.func (.func fid) first cap /\
 ∀ w',w.grownBy w' row->∀ p q,p∈M->q∈M->Ret Tryz.prog fid (first.toList++[p.1,q.1]++cap.toList) w' λr w''=>r=.int .i64 (fP ds p q)/\Ext w' w''
theorem Qgm{w:World}{base:Nat}{A:Option Addr}{n c a b:Nat}{ai bi:Int}{fv:Value}{ps:List Pr}{ds:List Bool}(hD:Dat w base (.slice A n c) ps)(hn:ps.length=n)(hai:ai=(a:Int))(hbi:bi=(b:Int))(hb:b<=n)(ha:a<=n)(hmx:n<=140737488355328)(hC:CmpF w (Value.slice A n c).ownBlock fv ps ds):
  Ret Tryz.prog 169 [.slice A n c,.int .i64 ai,.int .i64 bi,fv] w λv w'=>∃ ps',Dat w' base (.slice A n c) ps'/\Seg z0 a b ps ps'/\SOn z0 (fP ds) ps' a b/\w.grownBy w' (Value.slice A n c).ownBlock:=by
 subst hai;subst hbi;obtain ⟨ab,first,ac,rfl,hC⟩:=hC;refine Jz Tryz.func169 Tryz.ntmps169 rfl kr rfl ?_;refine ρ ?_;refine Jt (fun (i:Nat) (q:List Pr)=>[(0,.slice A n c),(1,.int .i64 (a:Int)),(2,.int .i64 (b:Int)),(3,.func (.func ab) first ac),(8,.int .i64 ((i:Nat):Int))])
  (λi q w'=>a+1<=i/\(i<=b∨i=a+1)/\Seg z0 a b ps q/\SOn z0 (fP ds) q a i/\Dat w' base (.slice A n c) q/\w.grownBy w' (Value.slice A n c).ownBlock) (λi _=>b+1-i) (a+1) ps sO
  ⟨Nat.le_refl _,.inr rfl,Seg.refl _ _ _,SOn.one _ om,hD,Zk (Ext.refl w) _⟩ ?_
 rintro i q w1 ⟨hai,ag,a7,a8,aa,a6⟩;refine ρ ?_;refine ci (λh=>?_) (λh=>?_)
 .have af:i<b:=by have:=oT h;omega
  refine ρ ?_;refine Jt (fun (j:Nat) (q:List Pr)=>[(0,.slice A n c),(1,.int .i64 (a:Int)),(2,.int .i64 (b:Int)),(3,.func (.func ab) first ac),(8,.int .i64 ((i:Nat):Int)),(9,.int .i64 ((j:Nat):Int))])
   (λj q w'=>InsI z0 (fP ds) q a i j/\Seg z0 a b ps q/\Dat w' base (.slice A n c) q/\w.grownBy w' (Value.slice A n c).ownBlock) (λj _=>j) i q sB ⟨InsI.start a8 om,a7,aa,a6⟩ ?_
  rintro j q w2 ⟨hI,J,ae,ad⟩;have o:q.length=n:=by rw [J.len,hn]
  obtain ⟨h1,h2,_,_⟩:=id hI;refine ρ ?_;refine dr [(0,0),(0,1),(0,2),(0,3),(0,4),(0,5),(0,6),(0,7),(0,8),(0,9),(0,10),(0,11),(0,12),(0,13),(1,14),(0,15),(0,16)] kr ?_;have a4:Ext w2 w2.drew:=(Ext.refl w2).drew;have O:=ae.ext a4;have a2:=Zx ad (Zk a4 _);refine ρd ?_;refine dki 21 (λh=>?_) (λh=>?_)
  .have hj:a<j:=by have:=oT h;omega
   have Z:j<n:=om
   have G:j-1<n:=om
   refine ρd ?_;refine dix j (O.rd o) Z ?_;refine ρd ?_;refine dld (O.cell o Z) ?_;refine ρd ?_;refine dix (j-1) (O.rd o) G ?_;refine ρd ?_;refine dld (O.cell o G) ?_;refine ρd ?_;refine Za (hC _ a2 (q.getD j z0) (q.getD (j-1) z0) (J.perm.mem_iff.1 (getD_mem' z0 q om)) (J.perm.mem_iff.1 (getD_mem' z0 q om))) ?_;rintro r w4 ⟨rfl,a1⟩;refine ⟨a1,?_⟩;have a9:=O.ext a1;have a5:=Zx a2 (Zk a1 _);refine ρd ?_;refine ρ ?_;refine ci (λh=>?_) (λh=>?_)
   .have U:=oT h;refine ρ ?_;refine drC 4 [0,1,2,3,4,5,6,7,10,11] [(0,8),(0,9),(0,12),(0,13),(0,14),(2,15),(2,16),(2,17)] kr ?_;have a3:Ext w4 w4.drew:=(Ext.refl w4).drew;have C:=a9.ext a3;obtain ⟨s1,s2,s3,⟨u,s4⟩,s5,s6⟩:=C.swap o Z G;refine ρp ?_;refine dix (j-1) (C.rd o) G ?_;refine ρd ?_;refine dld (C.cell o G) ?_;refine ρd ?_;refine dix j (C.rd o) Z ?_;refine ρd ?_;refine dld (C.cell o Z) ?_;refine ρd ?_;refine dix j (C.rd o) Z ?_;refine ρd ?_;refine Jo ?_;refine sto (C.cell o Z) s1 ?_ (hv:=C.one (o.symm ▸ G));refine ρ ?_;refine Ql ?_;refine Jo ?_;refine ix (j-1) s2 G ?_;refine ρ ?_;refine Ql ?_;refine Jo ?_;refine sto s4 s3 ?_ (hv:=C.one (o.symm ▸ Z));refine ρ ?_;exact Jg (j-1) (swp z0 q j (j-1)) sO ⟨hI.step hj om U,J.trans (Seg.swp om om om om om),s5,Zx a5 (Zx (Zk a3 _) s6)⟩ om
   .have U:=oF h;refine ρ ?_;exact Jg (i+1) q sB ⟨om,om,J,hI.done (preP ds) hj U,a9,a5⟩ om
  .have hj:j=a:=by have:=oF h;omega
   subst hj;refine ρd ?_;refine ρ ?_;exact Jg (i+1) q sB ⟨om,om,J,hI.done0,O,a2⟩ om
 .refine ρ ?_;have hbi:b<=i:=by have:=oF h;omega
  exact Ue ⟨q,aa,a7,a8.mono (Nat.le_refl _) hbi,a6⟩
end Go.Proofs.YtebcagekopgdhaaGreatDoor
