/- Part 12. -/
import Derived.Test.YtebcagekopgdhaaGreatDoorG11
set_option linter.unusedVariables false
set_option maxRecDepth 100000
set_option maxHeartbeats 40000000
namespace Go.Proofs.YtebcagekopgdhaaGreatDoor
open Go.RowKit Pl Go.Wk
attribute [local irreducible] WC WL QX WD WDB WP WN WG
variable {a b l os:List UInt32}{c i k m n x y:Nat}
theorem Jnb(c:UInt32)(h:k<l.length): val (l.set k c)+4294967296^k*(l.getD k 0).toNat=val l+4294967296^k*c.toNat:=by
 induction l generalizing k with
 | nil=>simp at h
 | cons x l ih=>
  cases k with
  | zero=>simp [val];omega
  | succ k=>
   have:=ih (k:=k) (by simpa using h);simp only [List.set_cons_succ,val,List.getD_cons_succ,Nat.pow_succ];have u:4294967296^k*4294967296*(l.getD k 0).toNat=4294967296*(4294967296^k*(l.getD k 0).toNat):=by
    rw [Nat.mul_comm (4294967296^k) 4294967296,Nat.mul_assoc]
   have o:4294967296^k*4294967296*c.toNat=4294967296*(4294967296^k*c.toNat):=by
    rw [Nat.mul_comm (4294967296^k) 4294967296,Nat.mul_assoc]
   rw [u,o];omega
structure MulO(a b:List UInt32)(i:Nat)(os:List UInt32): Prop where
 len:os.length=a.length+b.length
 val:val os=val (a.take i)*val b
 zero:∀ k,i+b.length<=k->os.getD k 0=0
structure MulI(a b:List UInt32)(i j c:Nat)(os:List UInt32): Prop where
 len:os.length=a.length+b.length
 small:c<4294967296
 val:val os+4294967296^(i+j)*c=Pl.val (a.take i)*Pl.val b+4294967296^i*(a.getD i 0).toNat*Pl.val (b.take j)
 zero:∀ k,i+b.length<=k->os.getD k 0=0
theorem Jgt(c:UInt32)(h:k≠m): (l.set k c).getD m 0=l.getD m 0:=by
 simp [List.getD,List.getElem?_set_ne h]
theorem Jtk(hx:x<4294967296)(hy:y<4294967296): x*y<=18446744065119617025:=by
 have:=Nat.mul_le_mul (show x<=4294967295 by omega) (show y<=4294967295 by omega);omega
theorem MulO.first: MulO a b 0 (List.replicate (a.length+b.length) 0):=by
 refine ⟨by simp,?_,λk _=>?_⟩
 .have:∀ n,Pl.val (List.replicate n (0:UInt32))=0:=λn=>by
   induction n with
   | zero=>rfl
   | succ n ih=>rw [List.replicate_succ];simp [Pl.val,ih]
  rw [this];simp [Pl.val]
 .simp only [List.getD,List.getElem?_replicate];split<;>rfl
theorem MulO.start(h:MulO a b i os): MulI a b i 0 0 os :=
 ⟨h.len,om,by rw [h.val];simp [Pl.val],h.zero⟩
theorem MulI.step{j s:Nat}(h:MulI a b i j c os)(hi:i<a.length)(hj:j<b.length)(hs:s=c+((a.getD i 0).toNat*(b.getD j 0).toNat+(os.getD (i+j) 0).toNat)):
  MulI a b i (j+1) (s / 4294967296) (os.set (i+j) (UInt32.ofNat s))/\s<18446744073709551616:=by
 obtain ⟨h1,h2,h3,h4⟩:=h;have J:(a.getD i 0).toNat<4294967296:=(a.getD i 0).toNat_lt;have G:(b.getD j 0).toNat<4294967296:=(b.getD j 0).toNat_lt;have hz:(os.getD (i+j) 0).toNat<4294967296:=(os.getD (i+j) 0).toNat_lt;have hm:=Jtk J G;have o:s<18446744073709551616:=om
 refine ⟨⟨by rw [List.length_set];exact h1,om,?_,λk O=>by rw [Jgt _ om];exact h4 k O⟩,o⟩;have e:=Jnb (UInt32.ofNat s) (show i+j<os.length by omega);rw [UInt32.toNat_ofNat']at e;rw [Jqh];generalize hX:(a.getD i 0).toNat=X at *
 generalize hY:(b.getD j 0).toNat=Y at *
 generalize hZ:(os.getD (i+j) 0).toNat=Z at *
 generalize Pl.val (os.set (i+j) (UInt32.ofNat s))=V' at *
 generalize Pl.val os=V at *
 generalize Pl.val (b.take j)=W at *
 generalize Pl.val (a.take i)*Pl.val b=U at *
 have C:4294967296^(i+(j+1))*(s / 4294967296)=4294967296^(i+j)*(4294967296*(s / 4294967296)):=by
  rw [show i+(j+1)=(i+j)+1 by omega,Nat.pow_succ,Nat.mul_assoc]
 have u:4294967296^i*X*(W+4294967296^j*Y)=4294967296^i*X*W+4294967296^(i+j)*(X*Y):=by
  rw [Nat.mul_add,Nat.pow_add];congr 1
  simp only [Nat.mul_assoc,Nat.mul_left_comm,Nat.mul_comm]
 have p3:4294967296^(i+j)*(s % 2^32)+4294967296^(i+j)*(4294967296*(s / 4294967296))=4294967296^(i+j)*c+(4294967296^(i+j)*(X*Y)+4294967296^(i+j)*Z):=by
  rw [<-Nat.mul_add,<-Nat.mul_add,<-Nat.mul_add];congr 1
  omega
 rw [C,u];omega
theorem MulI.last(h:MulI a b i b.length c os)(hi:i<a.length): MulO a b (i+1) (os.set (i+b.length) (UInt32.ofNat c)):=by
 obtain ⟨C,J,u,o⟩:=h;refine ⟨by rw [List.length_set];exact C,?_,λk G=>by rw [Jgt _ om];exact o k om⟩;have e:=Jnb (UInt32.ofNat c) (show i+b.length<os.length by omega);rw [o _ (Nat.le_refl _),UInt32.toNat_ofNat',show c % 2^32=c by omega,show (0:UInt32).toNat=0 from rfl,Nat.mul_zero,Nat.add_zero]at e;rw [e,u,List.take_length,Jqh,Nat.add_mul]
theorem Qhq{z:Nat}(hc:c<4294967296)(hx:x<4294967296)(hy:y<4294967296)(hz:z<4294967296):
  IntKind.u64.wrap ((c:Int)+IntKind.u64.wrap (IntKind.u64.wrap (IntKind.u64.wrap (x:Int)*IntKind.u64.wrap (y:Int))+IntKind.u64.wrap (z:Int)))=((c+(x*y+z):Nat):Int):=by
 have o:=Jtk hx hy;have w:∀ n:Nat,n<18446744073709551616->IntKind.u64.wrap (n:Int)=(n:Int):=λn hn=>by rw [IntKind.wrap_u64];omega
 rw [w x om,w y om,w z om,<-Int.natCast_mul,w _ om,<-Int.natCast_add,w _ om,<-Int.natCast_add,w _ om]
theorem Jxj{v u:Value}{w:World}(hv:NatV w v n)(hu:NatV w u m)(hln:(Jj n).length<=1000)(hlm:(Jj m).length<=1000): Ret Tryz.prog 15 [v,u] w λr w'=>NatV w' r (n*m)/\Fresh w r/\Ext w w':=by
 refine Jz Tryz.func15 Tryz.ntmps15 rfl kr rfl ?_;refine ρ ?_;refine cl (Uz hv) ?_;rintro v' w' ⟨⟨A,rfl,ha⟩,rfl⟩;refine ρ ?_;refine cl (Uz hu) ?_;rintro u' J ⟨⟨B,rfl,hb⟩,rfl⟩;generalize hL:(Jj n).length=L at *
 generalize hM:(Jj m).length=M at *
 refine ρ ?_;refine mkn EN (L+M) om (by unfold maxLen;omega) ?_;intro w1 O ac a8 hO;have a7:Xr w1 J.heap.size (.slice O (L+M) (L+M)) (List.replicate (L+M) 0):=by
  have e:(madeCells (Value.int .u32 0).cells ((L+M)*1)).toList=Nc (List.replicate (L+M) 0):=by rw [Nat.mul_one,<-Jlk];exact Yp _ _
  rw [e]at a8;rw [Xr,List.length_replicate];exact a8
 refine ρ ?_;refine Je (fun (i:Nat) (o:List UInt32)=>[(0,.slice A L L),(1,.slice B M M),(5,.slice O (L+M) (L+M)),(20,.int .i64 (L:Int)),(21,.int .i64 (i:Int))])
  (λi o w2=>i<=L/\Ext J w2/\MulO (Jj n) (Jj m) i o/\Xr w2 J.heap.size (.slice O (L+M) (L+M)) o) (λi _=>L-i) 0 (List.replicate (L+M) 0) sB
  ⟨Nat.zero_le _,ac,by rw [<-hL,<-hM];exact MulO.first,a7⟩ ?_
 rintro i o w2 ⟨hi,a6,hI,a5⟩;refine ρ ?_;refine ci (λh=>?_) (λh=>?_)
 .have li:i<L:=by have:=oT h;omega
  clear h;refine ρ ?_;refine Xm (fun (j c:Nat) (o:List UInt32)=>[(0,.slice A L L),(1,.slice B M M),(5,.slice O (L+M) (L+M)),(6,.int .i64 (i:Int)),(7,.int .u64 (c:Int)),(20,.int .i64 (L:Int)),(21,.int .i64 (i:Int)),(25,.int .i64 (M:Int)),(26,.int .i64 (j:Int))])
   (λj c o w3=>j<=M/\Ext J w3/\MulI (Jj n) (Jj m) i j c o/\Xr w3 J.heap.size (.slice O (L+M) (L+M)) o) (λj _ _=>M-j) 0 0 o sB
   ⟨Nat.zero_le _,a6,hI.start,a5⟩ ?_
  clear hI a5;rintro j c o w3 ⟨hj,a1,hI,U⟩;have C:o.length=L+M:=by rw [hI.len,hL,hM]
  refine ρ ?_;refine ci (λh=>?_) (λh=>?_)
  .have lj:j<M:=by have:=oT h;omega
   clear h;have Z:Ext w3 w3.drew:=(Ext.refl w3).drew;have ab:=ha.ext (a1.trans Z);have aa:=hb.ext (a1.trans Z);have G:=Jk U Z;rw [C]at G;have a4:Rd w3.drew 1 O (L+M) (Nc o):=Rd.own G;refine ρ ?_;refine dr [(0,0),(0,1),(0,2),(0,3),(0,4),(0,5),(0,6),(0,7),(0,8),(0,9),(0,10),(0,11),(0,12),(0,13),(0,14),(0,15),(0,16),(0,17),(0,18),(0,19),(0,20),(0,21)] kr ?_;refine ρd ?_;refine dix i ab li ?_;refine ρd ?_;refine dld (ab.cell (Zf (show i<(Jj n).length by omega))) ?_;refine ρd ?_;refine dix j aa lj ?_;refine ρd ?_;refine dld (aa.cell (Zf (show j<(Jj m).length by omega))) ?_;refine ρd ?_;refine dix (i+j) a4 om ?_;refine ρd ?_;refine dld (a4.cell (Zf (show i+j<o.length by omega))) ?_;refine ρd ?_;have hx:((Jj n).getD i 0).toNat<4294967296:=((Jj n).getD i 0).toNat_lt;have hy:((Jj m).getD j 0).toNat<4294967296:=((Jj m).getD j 0).toNat_lt;have hz:(o.getD (i+j) 0).toNat<4294967296:=(o.getD (i+j) 0).toNat_lt
   obtain ⟨a3,ah⟩:=hI.step (s:=c+(((Jj n).getD i 0).toNat*((Jj m).getD j 0).toNat+(o.getD (i+j) 0).toNat)) om om rfl;have a9:=Qhq hI.small hx hy hz;refine ρ ?_;generalize c+(((Jj n).getD i 0).toNat*((Jj m).getD j 0).toNat+(o.getD (i+j) 0).toNat)=s at *
   refine kv 7 (u:=.int .u64 (s:Int)) (congrArg (Value.int .u64) a9) ?_;refine kv 55 (u:=.int .u32 ((UInt32.ofNat s).toNat:Int)) (congrArg (Value.int .u32) ((congrArg IntKind.u32.wrap a9).trans (Ux s))) ?_;obtain ⟨s1,s2,s3,s4,s5⟩:=Zl G (q:=i+j) om (.int .u32 ((UInt32.ofNat s).toNat:Int));refine ρ ?_;refine ix (i+j) a4 om ?_;refine sto (s1.trans (Zf (show i+j<o.length by omega))) s2 ?_;refine ρ ?_;refine Yd rfl rfl (by decide) rfl ?_;refine ρ ?_;refine Qt (j+1) (s / 4294967296) (o.set (i+j) (UInt32.ofNat s)) ?_ ⟨lj,(a1.trans Z).setCell s4 _,a3,?_⟩ om
   .rw [Jdd];exact sB
   .rw [Xr,List.length_set,C,<-Jzm];exact s3
  have af:j=M:=by have:=oF h;omega
  subst af;clear h;have ae:MulI (Jj n) (Jj m) i (Jj m).length c o:=by rw [hM];exact hI
  have hl:=ae.last (show i<(Jj n).length by omega);have G:=U;rw [Xr,C]at G;obtain ⟨s1,s2,s3,s4,s5⟩:=Zl G (q:=i+j) om (.int .u32 ((UInt32.ofNat c).toNat:Int));refine ρ ?_;refine ix (i+j) (Rd.own G) om ?_;rw [Ux];refine sto (s1.trans (Zf (show i+j<o.length by omega))) s2 ?_;refine ρ ?_;rw [hM]at hl;refine Jl (i+1) (o.set (i+j) (UInt32.ofNat c)) sO ⟨li,a1.setCell s4 _,hl,?_⟩ om;rw [Xr,List.length_set,C,<-Jzm];exact s3
 have ag:i=L:=by have:=oF h;omega
 have C:o.length=L+M:=by rw [hI.len,hL,hM]
 have a2:=hI.val;rw [ag,List.take_of_length_le om,Zg,Zg]at a2;have U:=a5;rw [Xr,C]at U;have hr:=Rd.own U;refine ρ ?_;rw [<-C]at hr ⊢;refine cl (Ig hr (Nat.le_refl _) om) ?_;rintro t w4 ⟨rfl,rfl⟩;have:=Jql hr om;rw [a2]at this ⊢;refine ρ ?_;exact Jq ⟨this,λad _ _ e=>hO ad (by injection e),a6⟩
open Go.RowKit Pl Go.Wk
variable {l os:List UInt32}{c d k m n r x:Nat}{A:Option Addr}{w:World}
theorem Qjb(h0:n≠0)(h:n<4294967296): Jj n=[UInt32.ofNat n]:=by
 rw [Jym h0,show n / 4294967296=0 by omega,limbs_0]
theorem Qzf{cs:List Value}(hr:Rd w 1 A n cs)(h1:∀ u∈cs,u.oneCell'=true)(hb:n*4<=140737488355328):
  Ret Tryz.prog 89 [.slice A n c] w λv w'=>w'.ownsRow w.heap.size 110 1 v n cs/\Ext w w':=by
 refine Jz Tryz.func89 Tryz.ntmps89 rfl kr rfl ?_;refine ρ ?_;refine Ir ?_;refine ρ ?_;refine ci (λh=>?_) (λh=>?_)
 .have Z:A=none:=by simpa using h
  subst Z;have hn:n=0:=by
   rcases Nat.eq_zero_or_pos n with h0|h0
   .exact h0
   .obtain ⟨ad,h2,_⟩:=hr.isome h0 om;cases h2
  subst hn;have O:cs=[]:=List.eq_nil_of_length_eq_zero (by rw [hr.len]);subst O;refine ρ ?_;exact Jq ⟨Xa _ _ _ _,Ext.refl w⟩
 .refine ρ ?_;refine bsl Qzt ?_;intro w1 b o U J;refine ρ ?_;refine apo o EN (J.own (n:=0) U rfl (Nat.zero_le _)) (hr.ext o) h1 (by unfold maxLen;omega) om ?_;intro v2 w2 C G _ _;refine ρ ?_;rw [Nat.zero_add,List.nil_append]at C;exact Jq ⟨C,G⟩
theorem Jnc(h:k<l.length): val (l.drop k)=(l.getD k 0).toNat+4294967296*val (l.drop (k+1)):=by
 rw [List.drop_eq_getElem_cons h];simp [val,List.getD,List.getElem?_eq_getElem h]
structure DivI(l:List UInt32)(d k r:Nat)(os:List UInt32): Prop where
 len:os.length=l.length
 lt:r<d
 old:∀ j,j<k->os.getD j 0=l.getD j 0
 val:val (l.drop k)=Pl.val (os.drop k)*d+r
theorem DivI.step{s:Nat}(h:DivI l d (k+1) r os)(hk:k<l.length)(hd:d<4294967296)(hs:s=r*4294967296+(l.getD k 0).toNat): DivI l d k (s % d) (os.set k (UInt32.ofNat (s / d)))/\s<18446744073709551616:=by
 obtain ⟨u,h2,G,C⟩:=h;have U:(l.getD k 0).toNat<4294967296:=(l.getD k 0).toNat_lt;have o:s<4294967296*d:=by rw [hs];omega
 have Z:s / d<4294967296:=Nat.div_lt_of_lt_mul (by rw [Nat.mul_comm];exact o);refine ⟨⟨by rw [List.length_set];exact u,Nat.mod_lt _ om,λj hj=>by rw [Jgt _ om];exact G j om,?_⟩,om⟩;rw [Jnc hk,Jnc (l:=os.set k (UInt32.ofNat (s / d))) (k:=k) (by rw [List.length_set];omega),C];have O:(os.set k (UInt32.ofNat (s / d))).getD k 0=UInt32.ofNat (s / d):=by simp [List.getD,u,hk]
 have J:(os.set k (UInt32.ofNat (s / d))).drop (k+1)=os.drop (k+1):=List.drop_set_of_lt om;rw [O,J,UInt32.toNat_ofNat',Nat.mod_eq_of_lt (show s / d<2^32 by omega)];have:=Nat.div_add_mod s d;generalize Pl.val (os.drop (k+1))=V at *
 rw [Nat.mul_add,Nat.add_mul,<-Nat.mul_assoc];have e3:s / d*d=d*(s / d):=Nat.mul_comm _ _;omega
theorem Qph(hr:r<4294967296)(hx:x<4294967296): bits .or .u64 (IntKind.u64.wrap ((r:Int)*2^min (32:Int).toNat IntKind.u64.bits)) (IntKind.u64.wrap (x:Int))=((r*4294967296+x:Nat):Int):=by
 have C:(2:Int)^min (32:Int).toNat IntKind.u64.bits=4294967296:=by decide
 have u:IntKind.u64.wrap ((r:Int)*4294967296)=((r*4294967296:Nat):Int):=by rw [IntKind.wrap_u64];omega
 have o:IntKind.u64.wrap (x:Int)=(x:Int):=by rw [IntKind.wrap_u64];omega
 rw [C,u,o,u64_or_nat _ _ om om,nat_join 32 (r*4294967296) x (by simp) om]
theorem Qpj{L base:Nat}(hL:l.length=L)(hLm:L<=1100)(ho:w.ownsRow base 110 1 (.slice A L c) L (Nc l))(h0:0<d)(hd:d<4294967296):
  Ret Tryz.prog 90 [.slice A L c,.int .u32 (d:Int)] w λr w'=>r=.int .u32 ((val l % d:Nat):Int)/\(∃ os:List UInt32,os.length=L/\val os=val l / d/\w'.ownsRow base 110 1 (.slice A L c) L (Nc os))/\w.grownBy w' (Value.slice A L c).ownBlock:=by
 refine Jz Tryz.func90 Tryz.ntmps90 rfl kr rfl ?_;refine ρ ?_;refine Xm (fun (k r:Nat) (os:List UInt32)=>[(0,.slice A L c),(1,.int .u32 (d:Int)),(5,.int .u64 (r:Int)),(6,.int .i64 ((k:Int)-1))])
  (λk r os w1=>k<=L/\DivI l d k r os/\w1.ownsRow base 110 1 (.slice A L c) L (Nc os)/\w.grownBy w1 (Value.slice A L c).ownBlock) (λk _ _=>k) L 0 l sB
  ⟨Nat.le_refl _,⟨rfl,h0,λ_ _=>rfl,by rw [List.drop_of_length_le om];simp [val]⟩,ho,Zc (Ext.refl w) _⟩ ?_
 rintro k r os w1 ⟨hk,U,G,O⟩;have a1:os.length=L:=by rw [U.len,hL]
 refine ρ ?_;refine ci (λh=>?_) (λh=>?_)
 .obtain ⟨k,rfl⟩:∃ j,k=j+1:=⟨k-1,by have:=oT h;omega⟩;clear h;obtain ⟨s,hs⟩:∃ s,s=r*4294967296+(l.getD k 0).toNat:=⟨_,rfl⟩;obtain ⟨o,a3⟩:=U.step om hd hs;have hx:(l.getD k 0).toNat<4294967296:=(l.getD k 0).toNat_lt;have a4:=U.lt;have C:Rd w1 1 A L (Nc os):=Rd.own G;have J:=U.old k om;refine ρ ?_;refine wshl rfl rfl (by decide) rfl ?_;refine ρ ?_;refine ix k C om ?_;refine ρ ?_;refine ld (C.cell (Zf (show k<os.length by omega))) ?_;rw [J];refine ρ ?_;have Z:bits .or .u64 (IntKind.u64.wrap ((r:Int)*2^min (32:Int).toNat IntKind.u64.bits)) (IntKind.u64.wrap ((l.getD k 0).toNat:Int))=(s:Int):=by rw [hs];exact Qph om hx
  refine kv 5 (u:=.int .u64 (s:Int)) (congrArg (Value.int .u64) Z) ?_;refine kv 24 (u:=.int .u64 (s:Int)) (congrArg (Value.int .u64) Z) ?_;have ed:IntKind.u64.wrap (d:Int)=(d:Int):=by rw [IntKind.wrap_u64];omega
  refine kv 26 (u:=.int .u64 (d:Int)) (congrArg (Value.int .u64) ed) ?_;refine wquo rfl rfl om rfl ?_;have hq:s / d<=s:=Nat.div_le_self _ _;have e2:IntKind.u32.wrap (IntKind.u64.wrap ((s:Int).tdiv d))=((UInt32.ofNat (s / d)).toNat:Int):=by
   have:(s:Int).tdiv d=((s / d:Nat):Int):=rfl;rw [this];generalize s / d=q at *
   rw [Ut om,Ux]
  obtain ⟨s1,s2,s3,s4,s5⟩:=Zl G (q:=k) om (.int .u32 ((UInt32.ofNat (s / d)).toNat:Int));refine ρ ?_;refine ix k C om ?_;rw [e2];refine sto (s1.trans (Zf (show k<os.length by omega))) s2 ?_;refine ρ ?_;refine kv 32 (u:=.int .u64 (d:Int)) (congrArg (Value.int .u64) ed) ?_;refine wrem rfl rfl om rfl ?_;refine ρ ?_;refine Qt k (s % d) (os.set k (UInt32.ofNat (s / d))) ?_ ⟨om,o,?_,Zv O s5⟩ om
  .have e3:(s:Int).tmod d=((s % d:Nat):Int):=rfl;rw [e3];exact sO
  .rw [<-Jzm];exact s3
 .have a2:k=0:=by have:=oF h;omega
  subst a2;obtain ⟨i1,i2,_,i4⟩:=U;rw [List.drop_zero,List.drop_zero]at i4;have hm:r=val l % d:=by rw [i4,Nat.add_comm,Nat.add_mul_mod_self_right,Nat.mod_eq_of_lt i2]
  have hv:val os=val l / d:=by
   rw [i4,Nat.add_comm,Nat.add_mul_div_right _ _ h0,Nat.div_eq_of_lt i2,Nat.zero_add]
  refine ρ ?_;refine Jq ⟨?_,⟨os,a1,hv,G⟩,O⟩;rw [Ux,UInt32.toNat_ofNat',Nat.mod_eq_of_lt (show r<2^32 by omega),hm]
theorem Qhn{v u:Value}(hv:NatV w v n)(hu:NatV w u m)(hn:(Jj n).length<=1000)(h0:0<m)(hm:m<4294967296):
  Ret Tryz.prog 49 [v,u] w λr w'=>(∃ x y,r=.tuple #[x,y,.int .i64 0]/\NatV w' x (n / m)/\NatV w' y (n % m))/\Ext w w':=by
 have J:Jj m=[UInt32.ofNat m]:=Qjb om hm;refine Jz Tryz.func49 Tryz.ntmps49 rfl kr rfl ?_;refine ρ ?_;refine cl (Uz hv) ?_;rintro v' w' ⟨⟨A,rfl,ha⟩,rfl⟩;refine ρ ?_;refine cl (Uz hu) ?_;rintro u' a2 ⟨⟨B,rfl,hb⟩,rfl⟩;rw [J]at hb ⊢;refine ρ ?_;refine cl (Jjj (n:=n) (m:=m) ⟨A,_,rfl,Nat.le_refl _,om,ha⟩ ⟨B,1,by rw [J],by rw [J];simp,by rw [J];simp,by rw [J];exact hb⟩) ?_;rintro t w' ⟨rfl,o⟩;refine ρ ?_;refine ci (λh=>?_) (λh=>?_)
 .have Z:n<m:=by
   have:=oT h;unfold Ve at this;rcases Nat.lt_or_ge n m with h1|h1
   .exact h1
   .rw [if_neg om]at this;split at this<;>omega
  refine ρ ?_;refine cl (Qrs (ha.ext o) (Jll _) om) ?_;rintro v' w1 ⟨⟨A',c',rfl,hc,hr⟩,hx⟩;refine ρ ?_;refine Zb ⟨⟨.slice none 0 0,_,rfl,?_,?_⟩,o.trans hx⟩
  .rw [Nat.div_eq_of_lt Z];exact NatV.nil _
  .rw [Nat.mod_eq_of_lt Z];exact ⟨A',c',rfl,hc,om,hr⟩
 refine ρ ?_;refine cl (Qzf (ha.ext o) (Jll _) om) ?_;rintro q w1 ⟨ho,U⟩;obtain ⟨A',c',rfl,hc,hf⟩:=Jy ho;have a1:=(hb.ext o).ext U;refine ρ ?_;refine ix 0 a1 (by simp) ?_;refine ρ ?_;refine ld (a1.cell (Zf (l:=[UInt32.ofNat m]) (k:=0) (by simp))) ?_;have em:(([UInt32.ofNat m].getD 0 0).toNat:Int)=(m:Int):=by
  show ((UInt32.ofNat m).toNat:Int)=m;rw [UInt32.toNat_ofNat',Nat.mod_eq_of_lt (show m<2^32 by omega)]
 rw [em];refine ρ ?_;refine cl (Qpj rfl om ho h0 hm) ?_;rintro r w2 ⟨rfl,⟨os,a4,C,a5⟩,a6⟩;rw [Zg]at C ⊢;have a3:Ext a2 w2:=Qf (o.trans U) a6 (λk e=>nL o.size (hf k e).1);have G:=Rd.own a5;rw [<-a4]at G hc ⊢;refine ρ ?_;refine cl (Ig G hc om) ?_;rintro t w3 ⟨rfl,rfl⟩;have:=Jql G om;rw [C]at this ⊢;have hr:n % m<m:=Nat.mod_lt _ h0;refine ρ ?_;rw [Ut om];refine cl (Qhm (n % m) om _) ?_;rintro y w4 ⟨hy,O⟩;refine ρ ?_;exact Zb ⟨⟨_,y,rfl,this.ext O,hy⟩,a3.trans O⟩
end Go.Proofs.YtebcagekopgdhaaGreatDoor
namespace Go.Wk
variable {d n t ty:Nat}
theorem dbx{P:Program}{al:AL}{w:World}{Q:Exit->Act->World->Prop}{ops:Array Oper}{drest:List (Nat×Oper)}{pos:String}{aft:Array Edge}{x:Operand}{v:Value}{cs:List Value}(kk:∀ w1 b,Ext w w1->w.heap.size<=b->Blk w1 b t cs->WD P n ops Q drest ((d,.pointer (some ⟨b,0,none⟩))::al) w1)(hx:ev al x=some v:=by rfl)(hv:v.cells=cs.toArray:=by rfl)(hd:Nat.blt d n=true:=by rfl): WD P n ops Q ((1,⟨some d,.box t x,ty,pos,aft,none⟩)::drest) al w :=
 Uh (bx (λw1 b o C u=>Jg (Ug o (kk w1 b o C u))) hx hv hd)
end Go.Wk
namespace Go.Proofs.YtebcagekopgdhaaGreatDoor
open Go.RowKit Pl Go.Wk
attribute [local irreducible] WC WL QX WD WDB WP WN WG
variable {c m n:Nat}{N N':Nat->Prop}{l r t:Tr}{pl pr u v wt:Value}{w w':World}
theorem Qjc(h:0<(Jj n).length): n≠0:=λe=>by rw [e,limbs_0]at h;simp at h
def NatX(N:Nat->Prop)(w:World)(v:Value)(n:Nat): Prop:=NatV w v n/\(n≠0->∀ ad m c,v=.slice (some ad) m c->¬ N ad.block)
theorem NatX.ext{N:Nat->Prop}{w w':World}{v:Value}{n:Nat}(h:NatX N w v n)(hx:Ext w w'): NatX N w' v n:=⟨h.1.ext hx,h.2⟩
theorem NatX.gr(h:NatX N w v n)(hg:GrN N w w'): NatX N w' v n:=by
 obtain ⟨⟨A,c,rfl,G,C,u⟩,o⟩:=h;exact ⟨⟨A,c,rfl,G,C,Vj u hg (λh0 J e=>o (Qjc (by rw [Xjw]at h0;exact h0)) J _ _ (by rw [e]))⟩,o⟩
theorem NatX.nil{N:Nat->Prop}(w:World): NatX N w (.slice none 0 0) 0:=⟨NatV.nil w,λ_ o m c e=>by cases e⟩
theorem limbs_pos'(h:n≠0): 0<(Jj n).length:=by rw [Jym h];simp
theorem NatX.old(h:NatX N w v n)(hs:∀ k,N' k->N k∨w.heap.size<=k): NatX N' w v n:=⟨h.1,λh0 O m c e G=>by
 rcases hs _ G with h1|h1
 .exact h.2 h0 O m c e h1
 .obtain ⟨A,Z,u,_,_,C⟩:=h.1;rw [e]at u;injection u with e3 e4 e5
  subst e3;obtain ⟨J,o,U⟩:=Rd.isome C (limbs_pos' h0) om;injection o with o;subst o;omega⟩
theorem Fresh.x(h:Fresh w v)(hn:NatV w' v n)(hN:∀ k,N k->k<w.heap.size): NatX N w' v n :=
 ⟨hn,λ_ u m c e o=>by have:=h u m c e;have:=hN _ o;omega⟩
def TrV(N:Nat->Prop)(w:World): Tr->Value->Prop
 | .nil,u=>u=.pointer none
 | .node l v x r,u=>∃ b wt pl pr st,u=.pointer (some ⟨b,0,none⟩)/\(Blk w b 233 (v.cells++[wt,pl,pr,.int .i64 ((Tr.node l v x r).ht:Int),.int .i64 ((Tr.node l v x r).sz:Int),st])/\¬ N b)/\NatX N w wt x/\NatX N w st (Tr.node l v x r).sum/\TrV N w l pl/\TrV N w r pr
theorem TrV.gr{N:Nat->Prop}{w w':World}: ∀ {t:Tr} {u:Value},TrV N w t u->GrN N w w'->TrV N w' t u
 | .nil,u,h,_=>h
 | .node l v x r,u,h,hx=>by
  obtain ⟨b,wt,pl,pr,st,h1,⟨h2,h2'⟩,h3,h4,h5,h6⟩:=h;exact ⟨b,wt,pl,pr,st,h1,⟨Jv h2 hx h2',h2'⟩,h3.gr hx,h4.gr hx,h5.gr hx,h6.gr hx⟩
theorem TrV.ext{N:Nat->Prop}{w w':World}{t:Tr}{u:Value}(h:TrV N w t u)(hx:Ext w w'): TrV N w' t u:=h.gr (GrN.ext hx)
theorem TrV.old{N N':Nat->Prop}{w:World}(hs:∀ k,N' k->N k∨w.heap.size<=k): ∀ {t:Tr} {u:Value},TrV N w t u->TrV N' w t u
 | .nil,u,h=>h
 | .node l v x r,u,h=>by
  obtain ⟨b,wt,pl,pr,st,h1,⟨h2,h2'⟩,h3,h4,h5,h6⟩:=h;exact ⟨b,wt,pl,pr,st,h1,⟨h2,λhk=>(hs _ hk).elim h2' (λh=>by have:=h2.lt;omega)⟩,h3.old hs,h4.old hs,h5.old hs,h6.old hs⟩
theorem TrV.ptr(h:TrV N w t u): ∃ p,u=.pointer p:=by
 cases t with
 | nil=>exact ⟨none,h⟩
 | node l v x r=>obtain ⟨b,_,_,_,_,o,_⟩:=h;exact ⟨_,o⟩
theorem Jyj(hv:NatV w v n)(hs:(Jj n).length<=1000): Ret Tryz.prog 56 [v] w λr w'=>NatV w' r n/\Fresh w r/\Ext w w':=by
 refine Jz Tryz.func56 Tryz.ntmps56 rfl kr rfl ?_;refine ρ ?_;refine cl (Uz hv) ?_;rintro u w' ⟨⟨A,rfl,O⟩,rfl⟩;refine ρ ?_;refine cl (Qzf O (Jll _) om) ?_;rintro u w1 ⟨o,C⟩;obtain ⟨A',U,rfl,J,G⟩:=Jy o;refine ρ ?_;refine Jq ⟨⟨A',U,rfl,J,om,Rd.own o⟩,λZ m c e=>?_,C⟩;injection e with e1 e2 e3
 subst e1;exact (G Z.block rfl).1
theorem Qks: ∃ k:Nat,k=900:=⟨_,rfl⟩
noncomputable def bK: Nat:=Classical.choose Qks
theorem Jlb: bK=900:=Classical.choose_spec Qks
def Nb(n:Nat): Prop:=n<4294967296^bK
theorem Nb.len(h:Nb n): (Jj n).length<=1000:=by
 rcases Nat.eq_zero_or_pos n with h0|h0
 .rw [h0,limbs_0];simp
 .have o:=Qjd (n:=n) om;rcases Nat.lt_or_ge bK ((Jj n).length-1) with h2|h2
  .exact absurd (nM h (nL (Nat.pow_le_pow_right (by decide) (Nat.le_of_lt h2)) o)) (Nat.lt_irrefl _)
  .rw [Jlb]at h2;omega
theorem Nb.le(h:Nb n)(hm:m<=n): Nb m:=Nat.lt_of_le_of_lt hm h
theorem Kt(h:TrV N w t u): Ret Tryz.prog 117 [u] w λr w'=>r=.int .i64 (t.ht:Int)/\w'=w:=by
 refine Jz Tryz.func117 Tryz.ntmps117 rfl kr rfl ?_;cases t with
 | nil=>
  obtain rfl:u=.pointer none:=h;refine ρ ?_;refine pnl ?_;refine ρ ?_;exact Jq ⟨rfl,rfl⟩
 | node l v x r=>
  obtain ⟨b,C,J,G,st,rfl,⟨o,_⟩,h3,Z,U,O⟩:=h;refine ρ ?_;refine pnl ?_;refine ρ ?_;refine ld (o.at (i:=6) rfl) ?_;refine ρ ?_;exact Jq ⟨rfl,rfl⟩
theorem Jpj(h:TrV N w t u): Ret Tryz.prog 208 [u] w λr w'=>r=.int .i64 (t.sz:Int)/\w'=w:=by
 refine Jz Tryz.func208 Tryz.ntmps208 rfl kr rfl ?_;cases t with
 | nil=>
  obtain rfl:u=.pointer none:=h;refine ρ ?_;refine pnl ?_;refine ρ ?_;exact Jq ⟨rfl,rfl⟩
 | node l v x r=>
  obtain ⟨b,C,J,G,st,rfl,⟨o,_⟩,h3,Z,U,O⟩:=h;refine ρ ?_;refine pnl ?_;refine ρ ?_;refine ld (o.at (i:=7) rfl) ?_;refine ρ ?_;exact Jq ⟨rfl,rfl⟩
theorem Jqm(h:TrV N w t u): Ret Tryz.prog 154 [u] w λr w'=>NatX N w r t.sum/\w'=w:=by
 refine Jz Tryz.func154 Tryz.ntmps154 rfl kr rfl ?_;cases t with
 | nil=>
  obtain rfl:u=.pointer none:=h;refine ρ ?_;refine pnl ?_;refine ρ ?_;exact Jq ⟨NatX.nil _,rfl⟩
 | node l v x r=>
  obtain ⟨b,G,O,J,st,rfl,⟨C,_⟩,h3,o,Z,U⟩:=h;refine ρ ?_;refine pnl ?_;refine ρ ?_;refine ld (C.at (i:=8) rfl) ?_;refine ρ ?_;exact Jq ⟨o,rfl⟩
structure NatsV(w:World)(A:Option Addr)(us:List Value)(ns:List Nat): Prop where
 rd:Rd w 1 A us.length us
 len:us.length=ns.length
 nat:∀ i,i<ns.length->NatV w (us.getD i (.int .i64 0)) (ns.getD i 0)
theorem Qhk{A:Option Addr}{us:List Value}{ns:List Nat}(h:NatsV w A us ns)(hN:Nb (ns.foldl (· + ·) 0))(hl:ns.length<=1000)(hsub:∀ i,i<=ns.length->Nb ((ns.take i).foldl (· + ·) 0))(hone:∀ x∈ns,Nb x):
  Ret Tryz.prog 209 [.slice A us.length c] w λr w'=>NatV w' r (ns.foldl (· + ·) 0)/\Fresh w r/\Ext w w':=by
 have a2:=h.len;refine Jz Tryz.func209 Tryz.ntmps209 rfl kr rfl ?_;refine ρ ?_;refine Je (fun (i:Nat) (vs:Value)=>[(0,.slice A us.length c),(3,vs),(6,.int .i64 (us.length:Int)),(7,.int .i64 (i:Int))])
  (λi vs w'=>i<=ns.length/\Ext w w'/\NatV w' vs ((ns.take i).foldl (· + ·) 0)/\Fresh w vs) (λi _=>ns.length-i) 0 (.slice none 0 0) sB
  ⟨Nat.zero_le _,Ext.refl _,NatV.nil _,λad m c e=>by cases e⟩ ?_
 rintro i vs w1 ⟨hi,o,O,Z⟩;refine ρ ?_;refine ci (λG=>?_) (λG=>?_)
 .have C:i<ns.length:=by have:=oT G;omega
  clear G;refine ρ ?_;refine ix i (h.rd.ext o) om ?_;have u:us[i]?=some (us.getD i (.int .i64 0)):=by simp [List.getD,List.getElem?_eq_getElem (show i<us.length by omega)]
  refine ρ ?_;refine ld ((h.rd.ext o).cell u) ?_;refine ρ ?_;refine cl (Km O ((h.nat i C).ext o) (hsub i hi).len (hone _ (by simp [List.getD,List.getElem?_eq_getElem C])).len) ?_;rintro r w2 ⟨hr,a1,J⟩;refine ρ ?_;refine Jl (i+1) r sO ⟨C,o.trans J,?_,λad m c e=>nL o.size (a1 ad m c e)⟩ om;rw [Qb 0 C,List.foldl_append];exact hr
 have U:i=ns.length:=by have:=oF G;omega
 rw [U,List.take_length]at O;refine ρ ?_;exact Jq ⟨O,Z,o⟩
theorem Qsq(v:V)(wt st:Value)(A1 A2:Option Addr)(n1 n2 c1 c2:Nat)(pl pr:Option Addr)(y z:Int)(h1:wt=.slice A1 n1 c1)(h2:st=.slice A2 n2 c2)(w:World): (Instr.build 233 #[(0,.agg (v.cells++[wt]).toArray),(1,.pointer pl),(2,.pointer pr),(3,.int .i64 y),(4,.int .i64 z),(5,st)]).run Tryz.prog w=.ok (.agg (v.cells++[wt,.pointer pl,.pointer pr,.int .i64 y,.int .i64 z,st]).toArray) w:=by
 subst h1;subst h2;kernel_rfl
theorem Qrw(v1 v2 v3:Value)(A1 A2 A3:Option Addr)(n1 n2 n3 c1 c2 c3:Nat)(h1:v1=.slice A1 n1 c1)(h2:v2=.slice A2 n2 c2)(h3:v3=.slice A3 n3 c3)(w:World): (Instr.buildSlice 312 3 #[(0,v1),(1,v2),(2,v3)]).run Tryz.prog w=.ok (.slice (some ⟨w.heap.size,0,none⟩) 3 3) (w.alloc (.cells [v1,v2,v3].toArray 29)):=by
 subst h1;subst h2;subst h3;kernel_rfl
theorem Yb{v:V}{x:Nat}(hl:TrV N w l pl)(hr:TrV N w r pr)(hw:NatX N w wt x)(hN:∀ k,N k->k<w.heap.size)(hb:Nb (Tr.node l v x r).sum)(hs:(Tr.node l v x r).sz<=1000000):
  Ret Tryz.prog 190 [pl,.agg (v.cells++[wt]).toArray,pr] w λu w'=>TrV N w' (.node l v x r) u/\Ext w w':=by
 obtain ⟨ql,rfl⟩:=hl.ptr;obtain ⟨qr,rfl⟩:=hr.ptr;refine Jz Tryz.func190 Tryz.ntmps190 rfl kr rfl ?_;refine ρ ?_;refine bx (cs:=v.cells++[wt]) ?_;intro w1 b a9 aj hB;refine ρ ?_;have a1:Ext w1 w1.drew:=(Ext.refl w1).drew;have C:=a9.trans a1;have a7:=hB.ext a1;have O:=hl.ext C;have J:=hr.ext C;have Z:=hw.ext C;have ag:=Tr.ht_le l;have af:=Tr.ht_le r;simp only [Tr.sz]at hs;refine dr [(0,0),(0,1),(0,2),(0,3),(0,5),(0,9),(0,12),(0,15),(0,17),(0,18),(0,19),(1,4),(1,6),(0,7),(0,8),(1,10),(0,11),(1,13),(0,14),(1,16),(1,20),(1,21),(1,22),(0,23),(1,24),(0,25)] kr ?_;refine ρd ?_;refine Qw (cs:=v.cells++[wt]) (λj u hu=>a7.at hu) ?_;refine ρd ?_;refine dld (a7.at (i:=3) rfl) ?_;refine ρd ?_;refine dcl (Kt O) ?_;rintro u2 w2 ⟨rfl,rfl⟩;refine ⟨Ext.refl _,?_⟩;refine ρd ?_;refine dcl (Kt J) ?_;rintro u2 w2 ⟨rfl,rfl⟩;refine ⟨Ext.refl _,?_⟩;refine ρd ?_;refine dcl (Jpj O) ?_
 rintro u2 w2 ⟨rfl,rfl⟩;refine ⟨Ext.refl _,?_⟩;refine ρd ?_;refine dcl (Jpj J) ?_;rintro u2 w2 ⟨rfl,rfl⟩;refine ⟨Ext.refl _,?_⟩;refine ρd ?_;refine dcl (Jqm O) ?_;rintro ul w2 ⟨a4,rfl⟩;refine ⟨Ext.refl _,?_⟩;refine ρd ?_;refine dcl (Jqm J) ?_;rintro ur w2 ⟨a3,rfl⟩;refine ⟨Ext.refl _,?_⟩;obtain ⟨A1,c1,e1,_⟩:=id a4.1;obtain ⟨A2,c2,e2,_⟩:=id Z.1;obtain ⟨A3,c3,e3,_⟩:=id a3.1;refine ρd ?_;refine dbsl (Qrw _ _ _ _ _ _ _ _ _ _ _ _ e1 e2 e3) ?_;intro w3 b3 G ai ae;have ab:NatsV w3 (some ⟨b3,0,none⟩) [ul,wt,ur] [l.sum,x,r.sum]:=by
  refine ⟨ae.rd (n:=3) rfl,rfl,λi hi=>?_⟩;match i,hi with
  | 0,_=>exact a4.1.ext G
  | 1,_=>exact Z.1.ext G
  | 2,_=>exact a3.1.ext G
 simp only [Tr.sum]at hb;refine ρd ?_;refine dcl (Qhk (us:=[ul,wt,ur]) ab (hb.le (by simp)) (by simp) (λi hi=>hb.le ?_) (λy hy=>hb.le ?_)) ?_
 .match i,hi with
  | 0,_=>simp
  | 1,_=>simp;omega
  | 2,_=>simp
  | 3,_=>simp
 .simp only [List.mem_cons,List.not_mem_nil,or_false]at hy;rcases hy with rfl|rfl|rfl<;>omega
 rintro st w4 ⟨a6,ad,U⟩;refine ⟨U,?_⟩;obtain ⟨A4,c4,e4,_⟩:=id a6;refine ρd ?_;refine dbld (Qsq v wt st A2 A4 _ _ _ _ ql qr _ _ e2 e4) ?_;refine ρd ?_;refine dbx (cs:=v.cells++[wt,.pointer ql,.pointer qr,.int .i64 _,.int .i64 _,st]) ?_;intro w5 b5 a2 ah a8;refine ρd ?_;refine ρ ?_;have e5:(if (l.ht:Int)<(r.ht:Int) then (r.ht:Int) else (l.ht:Int))+1=((Tr.node l v x r).ht:Int):=by simp only [Tr.ht];split<;>omega
 have e6:(l.sz:Int)+1+r.sz=((Tr.node l v x r).sz:Int):=by simp only [Tr.sz];omega
 rw [e5,e6]at a8;have o:=(G.trans U).trans a2;have aa:=nL C.size G.size;have a5:NatX N w5 st (Tr.node l v x r).sum:=by
  have:=a6.ext a2;simp only [List.foldl_cons,List.foldl_nil,Nat.zero_add]at this;exact ad.x this λk hk=>nM (hN k hk) aa
 have ac:¬ N b5:=λhk=>by have:=hN _ hk;have:=U.size;omega
 exact Jq ⟨⟨b5,wt,_,_,st,rfl,⟨a8,ac⟩,Z.ext o,a5,O.ext o,J.ext o⟩,C.trans o⟩
end Go.Proofs.YtebcagekopgdhaaGreatDoor
namespace Go.Wk
theorem _root_.Go.Wk.Blk.pre{w:World}{b t:Nat}{cs ds:List Value}(h:Blk w b t (cs++ds))(j:Nat)(u:Value)(hu:cs[j]?=some u): w.cell? ((⟨b,0,none⟩:Addr).add j)=some u :=
 h.at (by rw [List.getElem?_append_left (List.getElem?_eq_some_iff.1 hu).1];exact hu)
end Go.Wk
namespace Go.Proofs.YtebcagekopgdhaaGreatDoor
open Go.RowKit Pl Go.Wk
attribute [local irreducible] WC WL QX WD WDB WP WN WG
theorem Qkk{N:Nat->Prop}{w:World}{l r:Tr}{pl pr wt:Value}{v:V}{x:Nat}(hl:TrV N w l pl)(hr:TrV N w r pr)(hw:NatX N w wt x)(hN:∀ k,N k->k<w.heap.size)(hb:Nb (Tr.node l v x r).sum)(hs:(Tr.node l v x r).sz<=1000000):
  Ret Tryz.prog 191 [pl,.agg (v.cells++[wt]).toArray,pr] w λu w'=>TrV N w' (Tr.bal l v x r) u/\Ext w w':=by
 obtain ⟨ql,rfl⟩:=hl.ptr;obtain ⟨qr,rfl⟩:=hr.ptr;have be:=Tr.ht_le l;have bd:=Tr.ht_le r;have ai:l.sz+1+r.sz<=1000000:=hs;have Z:Nb (l.sum+x+r.sum):=hb;refine Jz Tryz.func191 Tryz.ntmps191 rfl kr rfl ?_;refine ρ ?_;refine bx (cs:=v.cells++[wt]) ?_;intro w1 b J bf hB;have ad:=hl.ext J;have aa:=hr.ext J;have a9:=hw.ext J;refine ρ ?_;refine cl (Kt ad) ?_;rintro u2 w2 ⟨rfl,rfl⟩;refine ρ ?_;refine cl (Kt aa) ?_;rintro u2 w2 ⟨rfl,rfl⟩;have a7:Ext w2 w2.drew:=(Ext.refl w2).drew;refine ρ ?_;by_cases hc:r.ht+1<l.ht
 .cases l with
  | nil=>simp [Tr.ht]at hc
  | node ll lv lx lr=>
   obtain ⟨bl,wl,ba,b9,sl,e1,⟨ah,b5⟩,au,bc,an,am⟩:=id ad;obtain rfl:ql=some ⟨bl,0,none⟩:=by injection e1
   obtain ⟨b6,rfl⟩:=an.ptr;obtain ⟨aq,rfl⟩:=am.ptr;simp only [Tr.sum,Tr.sz]at Z ai;have af:decide ((r.ht:Int)+1<((Tr.node ll lv lx lr).ht:Int))=true:=decide_eq_true om;refine dr [(0,0),(0,1),(0,2),(0,3),(0,4),(0,5),(0,6),(0,7),(0,8),(0,10),(0,11),(0,12),(0,13),(1,9),(1,14),(0,15),(0,16),(0,17)] kr ?_;refine ρd ?_;refine dkt 20 af ?_;refine ρd ?_;refine dld ((ah.ext a7).at (i:=4) rfl) ?_;refine ρd ?_;refine dld ((ah.ext a7).at (i:=5) rfl) ?_;refine ρd ?_;refine dcl (Kt (an.ext a7)) ?_;rintro u3 w3 ⟨rfl,rfl⟩;refine ⟨Ext.refl _,?_⟩;refine ρd ?_;refine dcl (Kt (am.ext a7)) ?_;rintro u3 w3 ⟨rfl,rfl⟩;refine ⟨Ext.refl _,?_⟩;refine ρd ?_;refine ρ ?_;refine ci (λO=>?_) (λO=>?_)
   .have O:lr.ht<=ll.ht:=by have:=oT O;omega
    have o:Ext w2 w2.drew.drew:=a7.drew;have a6:=ah.ext o;refine ρ ?_;refine dr [(0,0),(0,1),(0,2),(0,3),(0,4),(0,5),(0,6),(0,7),(0,8),(0,9),(0,10),(0,11),(0,12),(0,13),(1,14),(1,15),(0,16)] kr ?_;refine ρd ?_;refine dld (a6.at (i:=4) rfl) ?_;refine ρd ?_;refine Qw (cs:=lv.cells++[wl]) (Blk.pre (cs:=lv.cells++[wl]) a6) ?_;refine ρd ?_;refine dld (a6.at (i:=5) rfl) ?_;refine ρd ?_;refine Qw (cs:=v.cells++[wt]) (λj u hu=>(hB.ext o).at hu) ?_;refine ρd ?_;refine dcl (Yb (am.ext o) (aa.ext o) (a9.ext o) (λk U=>nM (hN k U) (J.trans o).size) (Z.le (by simp only [Tr.sum];omega)) (by simp only [Tr.sz];omega)) ?_;rintro uj w4 ⟨hj,a2⟩;refine ⟨a2,?_⟩;have C:=o.trans a2;refine ρd ?_;refine dcl (Yb (an.ext C) hj (au.ext C) (λk U=>nM (hN k U) (J.trans C).size) (Z.le (by simp only [Tr.sum];omega)) (by simp only [Tr.sz];omega)) ?_;rintro uk w5 ⟨U,a1⟩
    refine ⟨a1,?_⟩;refine ρd ?_;refine ρ ?_;refine Jq ⟨?_,(J.trans C).trans a1⟩;have e:Tr.bal (.node ll lv lx lr) v x r=.node ll lv lx (.node lr v x r):=by simp only [Tr.bal,if_pos hc,if_pos O]
    rw [e];exact U
   have O:ll.ht<lr.ht:=by have:=oF O;omega
   refine ρ ?_;refine ct af ?_;cases lr with
   | nil=>simp [Tr.ht]at O
   | node ml mv mx mr=>
    obtain ⟨bm,wm,b2,b1,sm,e2,⟨ap,av⟩,ao,b3,ac,ab⟩:=id am;obtain rfl:aq=some ⟨bm,0,none⟩:=by injection e2
    obtain ⟨ay,rfl⟩:=ac.ptr;obtain ⟨ax,rfl⟩:=ab.ptr;simp only [Tr.sum,Tr.sz]at Z ai;refine ρ ?_;refine ld ((ah.ext a7).at (i:=5) rfl) ?_;refine ρ ?_;have o:Ext w2 w2.drew.drew:=a7.drew;have a6:=ah.ext o;have a4:=ap.ext o;refine dr [(0,0),(0,1),(0,2),(0,3),(0,4),(0,5),(0,6),(0,7),(0,8),(0,9),(0,10),(0,11),(0,13),(0,14),(0,15),(0,16),(0,17),(0,18),(0,19),(0,20),(0,21),(0,22),(1,12),(1,23),(1,24),(0,25)] kr ?_;refine ρd ?_;refine dld (a6.at (i:=4) rfl) ?_;refine ρd ?_;refine Qw (cs:=lv.cells++[wl]) (Blk.pre (cs:=lv.cells++[wl]) a6) ?_;refine ρd ?_;refine dld (a4.at (i:=4) rfl) ?_;refine ρd ?_;refine Qw (cs:=mv.cells++[wm]) (Blk.pre (cs:=mv.cells++[wm]) a4) ?_;refine ρd ?_;refine dld (a4.at (i:=5) rfl) ?_;refine ρd ?_;refine Qw (cs:=v.cells++[wt]) (λj u hu=>(hB.ext o).at hu) ?_;refine ρd ?_;refine dcl (Yb (an.ext o) (ac.ext o) (au.ext o) (λk U=>nM (hN k U) (J.trans o).size) (Z.le (by simp only [Tr.sum];omega)) (by simp only [Tr.sz];omega)) ?_
    rintro uj w4 ⟨hj,a2⟩;refine ⟨a2,?_⟩;have C:=o.trans a2;refine ρd ?_;refine dcl (Yb (ab.ext C) (aa.ext C) (a9.ext C) (λk U=>nM (hN k U) (J.trans C).size) (Z.le (by simp only [Tr.sum];omega)) (by simp only [Tr.sz];omega)) ?_;rintro uk w5 ⟨U,a1⟩;refine ⟨a1,?_⟩;have a3:=C.trans a1;refine ρd ?_;refine dcl (Yb (hj.ext a1) U (ao.ext a3) (λk U=>nM (hN k U) (J.trans a3).size) (Z.le (by simp only [Tr.sum];omega)) (by simp only [Tr.sz];omega)) ?_;rintro uo w6 ⟨ho,a8⟩;refine ⟨a8,?_⟩;refine ρd ?_;refine ρ ?_;refine Jq ⟨?_,(J.trans a3).trans a8⟩;have e:Tr.bal (.node ll lv lx (.node ml mv mx mr)) v x r=.node (.node ll lv lx ml) mv mx (.node mr v x r):=by simp only [Tr.bal,if_pos hc,if_neg (Nat.not_le.2 O)]
    rw [e];exact ho
 .refine dr [(0,0),(0,1),(0,2),(0,3),(0,4),(0,5),(0,6),(0,7),(0,8),(0,10),(0,11),(0,12),(0,13),(1,9),(1,14),(0,15),(0,16),(0,17)] kr ?_;refine ρd ?_;have af:decide ((r.ht:Int)+1<(l.ht:Int))=false:=dF om;refine dkf 20 af ?_;refine ρd ?_;refine ρ ?_;refine cf af ?_;refine ρ ?_;by_cases hd:l.ht+1<r.ht
  .cases r with
   | nil=>simp [Tr.ht]at hd
   | node rl rv rx rr=>
    obtain ⟨br,wr,b8,b7,sr,e1,⟨ag,b4⟩,ar,bb,ak,aj⟩:=id aa;obtain rfl:qr=some ⟨br,0,none⟩:=by injection e1
    obtain ⟨aw,rfl⟩:=ak.ptr;obtain ⟨aq,rfl⟩:=aj.ptr;simp only [Tr.sum,Tr.sz]at Z ai;have o:Ext w2 w2.drew.drew:=a7.drew;have ae:decide ((l.ht:Int)+1<((Tr.node rl rv rx rr).ht:Int))=true:=decide_eq_true om;refine dr [(0,0),(0,1),(0,2),(0,3),(0,4),(0,5),(0,6),(0,7),(0,8),(0,10),(0,11),(0,12),(0,13),(1,9),(1,14),(0,15),(0,16),(0,17)] kr ?_;refine ρd ?_;refine dkt 88 ae ?_;refine ρd ?_;refine dld ((ag.ext o).at (i:=5) rfl) ?_;refine ρd ?_;refine dld ((ag.ext o).at (i:=4) rfl) ?_;refine ρd ?_;refine dcl (Kt (aj.ext o)) ?_;rintro u3 w3 ⟨rfl,rfl⟩;refine ⟨Ext.refl _,?_⟩;refine ρd ?_;refine dcl (Kt (ak.ext o)) ?_;rintro u3 w3 ⟨rfl,rfl⟩;refine ⟨Ext.refl _,?_⟩;refine ρd ?_;refine ρ ?_;refine ci (λO=>?_) (λO=>?_)
    .have O:rl.ht<=rr.ht:=by have:=oT O;omega
     have G:Ext w2 w2.drew.drew.drew:=o.drew;have a5:=ag.ext G;refine ρ ?_;refine dr [(0,0),(0,1),(0,2),(0,3),(0,4),(0,5),(0,7),(0,8),(0,9),(0,10),(0,11),(0,12),(0,13),(0,14),(1,6),(1,15),(0,16)] kr ?_;refine ρd ?_;refine Qw (cs:=v.cells++[wt]) (λj u hu=>(hB.ext G).at hu) ?_;refine ρd ?_;refine dld (a5.at (i:=4) rfl) ?_;refine ρd ?_;refine Qw (cs:=rv.cells++[wr]) (Blk.pre (cs:=rv.cells++[wr]) a5) ?_;refine ρd ?_;refine dld (a5.at (i:=5) rfl) ?_;refine ρd ?_;refine dcl (Yb (ad.ext G) (ak.ext G) (a9.ext G) (λk U=>nM (hN k U) (J.trans G).size) (Z.le (by simp only [Tr.sum];omega)) (by simp only [Tr.sz];omega)) ?_;rintro uj w4 ⟨hj,a2⟩;refine ⟨a2,?_⟩;have C:=G.trans a2;refine ρd ?_;refine dcl (Yb hj (aj.ext C) (ar.ext C) (λk U=>nM (hN k U) (J.trans C).size) (Z.le (by simp only [Tr.sum];omega)) (by simp only [Tr.sz];omega)) ?_;rintro uk w5 ⟨U,a1⟩
     refine ⟨a1,?_⟩;refine ρd ?_;refine ρ ?_;refine Jq ⟨?_,(J.trans C).trans a1⟩;have e:Tr.bal l v x (.node rl rv rx rr)=.node (.node l v x rl) rv rx rr:=by simp only [Tr.bal,if_neg hc,if_pos hd,if_pos O]
     rw [e];exact U
    have O:rr.ht<rl.ht:=by have:=oF O;omega
    refine ρ ?_;refine ct ae ?_;cases rl with
    | nil=>simp [Tr.ht]at O
    | node ml mv mx mr=>
     obtain ⟨bm,wm,b2,b1,sm,e2,⟨ap,av⟩,ao,b3,ac,ab⟩:=id ak;obtain rfl:aw=some ⟨bm,0,none⟩:=by injection e2
     obtain ⟨ay,rfl⟩:=ac.ptr;obtain ⟨ax,rfl⟩:=ab.ptr;simp only [Tr.sum,Tr.sz]at Z ai;refine ρ ?_;refine ld ((ag.ext o).at (i:=4) rfl) ?_;refine ρ ?_;have G:Ext w2 w2.drew.drew.drew:=o.drew;have a5:=ag.ext G;have a4:=ap.ext G;refine dr [(0,0),(0,1),(0,2),(0,3),(0,4),(0,5),(0,7),(0,8),(0,9),(0,10),(0,11),(0,12),(0,13),(0,14),(0,15),(0,16),(0,17),(0,18),(0,19),(0,20),(0,21),(0,22),(1,6),(1,23),(1,24),(0,25)] kr ?_;refine ρd ?_;refine Qw (cs:=v.cells++[wt]) (λj u hu=>(hB.ext G).at hu) ?_;refine ρd ?_;refine dld (a4.at (i:=4) rfl) ?_;refine ρd ?_;refine Qw (cs:=mv.cells++[wm]) (Blk.pre (cs:=mv.cells++[wm]) a4) ?_;refine ρd ?_;refine dld (a4.at (i:=5) rfl) ?_;refine ρd ?_;refine Qw (cs:=rv.cells++[wr]) (Blk.pre (cs:=rv.cells++[wr]) a5) ?_;refine ρd ?_;refine dld (a5.at (i:=5) rfl) ?_;refine ρd ?_;refine dcl (Yb (ad.ext G) (ac.ext G) (a9.ext G) (λk U=>nM (hN k U) (J.trans G).size) (Z.le (by simp only [Tr.sum];omega)) (by simp only [Tr.sz];omega)) ?_
     rintro uj w4 ⟨hj,a2⟩;refine ⟨a2,?_⟩;have C:=G.trans a2;refine ρd ?_;refine dcl (Yb (ab.ext C) (aj.ext C) (ar.ext C) (λk U=>nM (hN k U) (J.trans C).size) (Z.le (by simp only [Tr.sum];omega)) (by simp only [Tr.sz];omega)) ?_;rintro uk w5 ⟨U,a1⟩;refine ⟨a1,?_⟩;have a3:=C.trans a1;refine ρd ?_;refine dcl (Yb (hj.ext a1) U (ao.ext a3) (λk U=>nM (hN k U) (J.trans a3).size) (Z.le (by simp only [Tr.sum];omega)) (by simp only [Tr.sz];omega)) ?_;rintro uo w6 ⟨ho,a8⟩;refine ⟨a8,?_⟩;refine ρd ?_;refine ρ ?_;refine Jq ⟨?_,(J.trans a3).trans a8⟩;have e:Tr.bal l v x (.node (.node ml mv mx mr) rv rx rr)=.node (.node l v x ml) mv mx (.node mr rv rx rr):=by simp only [Tr.bal,if_neg hc,if_pos hd,if_neg (Nat.not_le.2 O)]
     rw [e];exact ho
  .refine dr [(0,0),(0,1),(0,2),(0,3),(0,4),(0,5),(0,6),(0,7),(0,8),(0,10),(0,11),(0,12),(0,13),(1,9),(1,14),(0,15),(0,16),(0,17)] kr ?_;refine ρd ?_;have ae:decide ((l.ht:Int)+1<(r.ht:Int))=false:=dF om;refine dkf 88 ae ?_;refine ρd ?_;refine ρ ?_;refine cf ae ?_;have o:Ext w2 w2.drew.drew:=a7.drew;refine ρ ?_;refine lds (cs:=v.cells++[wt]) (λj u hu=>(hB.ext o).at hu) ?_;refine ρ ?_;refine cl (Yb (ad.ext o) (aa.ext o) (a9.ext o) (λk U=>nM (hN k U) (J.trans o).size) hb hs) ?_;rintro uj w4 ⟨hj,a2⟩;refine ρ ?_;refine Jq ⟨?_,(J.trans o).trans a2⟩;have e:Tr.bal l v x r=.node l v x r:=by simp only [Tr.bal,if_neg hc,if_neg hd]
   rw [e];exact hj
open Go.RowKit Pl Go.Wk
variable {d:Bool}{x:Nat}{N:Nat->Prop}{p p0:Option Addr}{a b v:V}{wt:Value}{w:World}
theorem neg_lt: neg d (cmpV a b)=if d=true then cmpV b a else cmpV a b:=by
 unfold neg;split
 .exact (cmp_V.anti a b).symm
 .rfl
theorem Qxv: Ret Tryz.prog 153 [.agg #[.bool d,.pointer p],a.val,b.val] w λu w'=>u=.int .i64 (neg d (cmpV a b))/\Ext w w':=by
 rw [neg_lt];refine Jz Tryz.func153 Tryz.ntmps153 rfl kr rfl ?_;refine ρ ?_;refine bx ?_;intro w1 b1 U a6 a3;refine ρ ?_;refine bx (cs:=a.cells) ?_;intro w2 b2 J a5 a2;refine ρ ?_;refine bx (cs:=b.cells) ?_;intro w3 b3 o a4 Z;have a1:=(a3.ext J).ext o;have C:=a2.ext o;refine ρ ?_;refine ld (a1.at (i:=0) rfl) ?_;refine ρ ?_;refine ci (λh=>?_) (λh=>?_)
 .refine ρ ?_;refine lds (cs:=b.cells) (λj u O=>Z.at O) ?_;refine ρ ?_;refine lds (cs:=a.cells) (λj u O=>C.at O) ?_;refine ρ ?_;refine cl (Jqg b a _) ?_;rintro u w4 ⟨rfl,G⟩;refine ρ ?_;refine Jq ⟨?_,((U.trans J).trans o).trans G⟩;rw [if_pos h]
 .refine ρ ?_;refine lds (cs:=a.cells) (λj u O=>C.at O) ?_;refine ρ ?_;refine lds (cs:=b.cells) (λj u O=>Z.at O) ?_;refine ρ ?_;refine cl (Jqg a b _) ?_;rintro u w4 ⟨rfl,G⟩;refine ρ ?_;refine Jq ⟨?_,((U.trans J).trans o).trans G⟩;rw [if_neg (by rw [h];simp)]
theorem Qkm(l:Tr)(v:V)(x:Nat)(r:Tr): (Tr.bal l v x r).sum=l.sum+x+r.sum:=by
 have:=congrArg tot (Tr.toL_bal l v x r);rw [<-Tr.sum_eq,Jzs,tot,<-Tr.sum_eq,<-Tr.sum_eq]at this;rw [this];simp only;omega
theorem Jkg(d:Bool)(v:V)(x:Nat): ∀ t:Tr,(Tr.put d v x t).sum<=t.sum+x
 | .nil=>by simp [Tr.put,Tr.sum]
 | .node l a y r=>by
  have h1:=Jkg d v x l;have h2:=Jkg d v x r;unfold Tr.put;split
  .rw [Qkm,Tr.sum];omega
  .split
   .rw [Qkm,Tr.sum];omega
   .rw [Tr.sum,Tr.sum];omega
theorem Qfh: ∀ (t:Tr) (p:Value) (w:World),TrV N w t p->NatX N w wt x->(∀ k,N k->k<w.heap.size)->Nb (t.sum+x)->t.sz+1<=1000000 ->
  Ret Tryz.prog 168 [.agg #[.bool d,.pointer p0],p,.agg (v.cells++[wt]).toArray] w λu w'=>TrV N w' (Tr.put d v x t) u/\Ext w w':=by
 intro t;induction t with
 | nil=>
  intro p w hp hw hN hb hs;obtain rfl:p=.pointer none:=hp;refine Jz Tryz.func168 Tryz.ntmps168 rfl kr rfl ?_;refine ρ ?_;refine bx ?_;intro w1 b1 a9 ai ae;refine ρ ?_;refine bx (cs:=v.cells++[wt]) ?_;intro w2 b2 a7 ah ab;have hx:=a9.trans a7;refine ρ ?_;refine pnl ?_;refine ρ ?_;refine lds (cs:=v.cells++[wt]) (λj u U=>ab.at U) ?_;refine ρ ?_;refine cl (Yb (l:=.nil) (r:=.nil) (show TrV N w2 .nil (.pointer none) from rfl) (show TrV N w2 .nil (.pointer none) from rfl) (hw.ext hx) (λk hk=>nM (hN k hk) hx.size) (hb.le (by simp [Tr.sum])) (by simp [Tr.sz])) ?_;rintro u w3 ⟨U,O⟩;refine ρ ?_;exact Jq ⟨U,hx.trans O⟩
 | node l a y r ihl ihr=>
  intro p w hp hw hN hb hs;obtain ⟨bn,wn,pl,pr,sn,rfl,⟨a8,aj⟩,ac,ak,hl,hr⟩:=id hp;obtain ⟨ql,rfl⟩:=hl.ptr;obtain ⟨qr,rfl⟩:=hr.ptr;simp only [Tr.sum]at hb;simp only [Tr.sz]at hs;refine Jz Tryz.func168 Tryz.ntmps168 rfl kr rfl ?_;refine ρ ?_;refine bx ?_;intro w1 b1 a9 ai ae;refine ρ ?_;refine bx (cs:=v.cells++[wt]) ?_;intro w2 b2 a7 ah ab;have hx:=a9.trans a7;refine ρ ?_;refine pnl ?_;refine ρ ?_;have a6:Ext w2 w2.drew:=(Ext.refl w2).drew;have ad:=a8.ext (hx.trans a6);have a5:=(ae.ext a7).ext a6;have a1:=ab.ext a6;refine dr [(0,0),(0,1),(0,2),(0,3),(0,4),(0,5),(0,6),(0,7),(1,8),(0,9)] kr ?_;refine ρd ?_;refine Qw (cs:=[.bool d,.pointer p0]) (λj u U=>a5.at U) ?_;refine ρd ?_;refine Qw (cs:=v.cells) (Blk.pre (cs:=v.cells) a1) ?_;refine ρd ?_;refine Qw (cs:=a.cells) (Blk.pre (cs:=a.cells) ad) ?_;refine ρd ?_;refine dcl (Qxv (a:=v) (b:=a)) ?_;rintro u w3 ⟨rfl,O⟩
  refine ⟨O,?_⟩;refine ρd ?_;refine ρ ?_;have a3:=(hx.trans a6).trans O;refine ci (λhc=>?_) (λhc=>?_)
  .have hc:=oT hc;have C:Ext w3 w3.drew:=(Ext.refl w3).drew;have o:=a3.trans C;have G:=a8.ext o;refine ρ ?_;refine dr [(0,0),(0,1),(0,2),(0,3),(0,4),(0,5),(0,7),(0,8),(0,9),(0,10),(0,11),(0,12),(0,13),(0,14),(1,6),(1,15),(0,16)] kr ?_;refine ρd ?_;refine Qw (cs:=[.bool d,.pointer p0]) (λj u U=>((a5.ext O).ext C).at U) ?_;refine ρd ?_;refine dld (G.at (i:=4) rfl) ?_;refine ρd ?_;refine Qw (cs:=v.cells++[wt]) (λj u U=>((a1.ext O).ext C).at U) ?_;refine ρd ?_;refine Qw (cs:=a.cells++[wn]) (Blk.pre (cs:=a.cells++[wn]) G) ?_;refine ρd ?_;refine dld (G.at (i:=5) rfl) ?_;refine ρd ?_;refine dcl (ihl _ _ (hl.ext o) (hw.ext o) (λk hk=>nM (hN k hk) o.size) (hb.le om) om) ?_;rintro u w4 ⟨a4,J⟩;refine ⟨J,?_⟩;have ag:=Tr.put_sz d v x l;have af:=Jkg d v x l;refine ρd ?_;refine dcl (Qkk a4 (hr.ext (o.trans J)) (ac.ext (o.trans J)) (λk hk=>nM (hN k hk) (o.trans J).size) (hb.le (by simp only [Tr.sum];omega)) (by simp only [Tr.sz];omega)) ?_
   rintro u w5 ⟨aa,a2⟩;refine ⟨a2,?_⟩;refine ρd ?_;refine ρ ?_;refine Jq ⟨?_,(o.trans J).trans a2⟩;rw [Tr.put,if_pos hc];exact aa
  have hc:=oF hc;refine ρ ?_;refine ci (λZ=>?_) (λZ=>?_)
  .have Z:=oT Z;have C:Ext w3 w3.drew:=(Ext.refl w3).drew;have o:=a3.trans C;have G:=a8.ext o;refine ρ ?_;refine dr [(0,0),(0,1),(0,2),(0,3),(0,4),(0,5),(0,6),(0,7),(0,8),(0,9),(0,10),(0,11),(0,12),(0,13),(1,14),(1,15),(0,16)] kr ?_;refine ρd ?_;refine dld (G.at (i:=4) rfl) ?_;refine ρd ?_;refine Qw (cs:=a.cells++[wn]) (Blk.pre (cs:=a.cells++[wn]) G) ?_;refine ρd ?_;refine Qw (cs:=[.bool d,.pointer p0]) (λj u U=>((a5.ext O).ext C).at U) ?_;refine ρd ?_;refine dld (G.at (i:=5) rfl) ?_;refine ρd ?_;refine Qw (cs:=v.cells++[wt]) (λj u U=>((a1.ext O).ext C).at U) ?_;refine ρd ?_;refine dcl (ihr _ _ (hr.ext o) (hw.ext o) (λk hk=>nM (hN k hk) o.size) (hb.le om) om) ?_;rintro u w4 ⟨a4,J⟩;refine ⟨J,?_⟩;have ag:=Tr.put_sz d v x r;have af:=Jkg d v x r;refine ρd ?_;refine dcl (Qkk (hl.ext (o.trans J)) a4 (ac.ext (o.trans J)) (λk hk=>nM (hN k hk) (o.trans J).size) (hb.le (by simp only [Tr.sum];omega)) (by simp only [Tr.sz];omega)) ?_
   rintro u w5 ⟨aa,a2⟩;refine ⟨a2,?_⟩;refine ρd ?_;refine ρ ?_;refine Jq ⟨?_,(o.trans J).trans a2⟩;rw [Tr.put,if_neg hc,if_pos Z];exact aa
  have Z:=oF Z;have C:Ext w3 w3.drew:=(Ext.refl w3).drew;have o:=a3.trans C;have G:=a8.ext o;refine ρ ?_;refine dr [(0,0),(0,1),(0,2),(0,3),(0,4),(0,5),(0,6),(0,7),(0,8),(1,9),(0,10)] kr ?_;refine ρd ?_;refine dld (G.at (i:=4) rfl) ?_;refine ρd ?_;refine Qw (cs:=v.cells++[wt]) (λj u U=>((a1.ext O).ext C).at U) ?_;refine ρd ?_;refine dld (G.at (i:=5) rfl) ?_;refine ρd ?_;refine dcl (Yb (hl.ext o) (hr.ext o) (hw.ext o) (λk hk=>nM (hN k hk) o.size) (hb.le (by simp only [Tr.sum];omega)) (by simp only [Tr.sz];omega)) ?_;rintro u w4 ⟨a4,J⟩;refine ⟨J,?_⟩;refine ρd ?_;refine ρ ?_;refine Jq ⟨?_,o.trans J⟩;rw [Tr.put,if_neg hc,if_neg Z];exact a4
theorem Zo: Qp Tryz.prog 138=some (.agg #[.bool false,.pointer none]):=kr
theorem Qsl(d:Bool)(p:Option Addr)(w:World): (Instr.build 138 #[(0,.bool d),(1,.pointer p)]).run Tryz.prog w=.ok (.agg #[.bool d,.pointer p]) w:=kr
theorem Qsj(d:Bool)(w:World): (Instr.build 138 #[(0,.bool d)]).run Tryz.prog w=.ok (.agg #[.bool d,.pointer none]) w:=kr
theorem Qtb(v:V)(wt:Value)(A:Option Addr)(n c:Nat)(h:wt=.slice A n c)(w:World): (Instr.build 231 #[(0,v.val),(1,wt)]).run Tryz.prog w=.ok (.agg (v.cells++[wt]).toArray) w:=by subst h;kernel_rfl
theorem Qgq: ∀ u∈[Value.bool d,.pointer p],u.oneCell'=true:=λu o=>by
 simp only [List.mem_cons,List.not_mem_nil,or_false]at o;rcases o with rfl|rfl<;>rfl
theorem Qhj: Ret Tryz.prog 136 [.bool d] w λu w'=>u=.agg #[.bool d,.pointer none]/\Ext w w':=by
 refine Jz Tryz.func136 Tryz.ntmps136 rfl kr rfl ?_;refine ρ ?_;refine alc Zo ?_;intro w1 b C O U;refine ρ ?_;refine bld (Qsj d _) ?_;refine ρ ?_;refine stW U ?_;intro Z G J o;refine ρ ?_;exact Iq G ⟨rfl,o w C O⟩
theorem Jnl{p:Value}{t:Tr}(h:TrV N w t p)(hv:Xj v=true)(hw:NatV w wt x)(hN:∀ k,N k->k<w.heap.size)(h0:x≠0)(hn:Nb (t.sum+x))(hs:t.sz+1<=1000000):
  Ret Tryz.prog 137 [.agg #[.bool d,p],v.val,wt] w λu w'=>∃ q,u=.tuple #[.agg #[.bool d,q],.int .i64 0]/\TrV N w' (Tr.put d v x t) q/\Ext w w':=by
 obtain ⟨q,rfl⟩:=h.ptr;refine Jz Tryz.func137 Tryz.ntmps137 rfl kr rfl ?_;refine ρ ?_;refine bx ?_;intro w1 b1 a5 aw ap;refine ρ ?_;refine bx (cs:=v.cells) ?_;intro w2 b2 U av ao;refine ρ ?_;refine alc Zo ?_;intro w3 b3 a4 ab ae;have C:=(a5.trans U).trans a4;have ag:=(ap.ext U).ext a4;have a1:=ao.ext a4;refine ρ ?_;refine lds (cs:=v.cells) (λj u hu=>a1.at hu) ?_;refine ρ ?_;refine cl (Jmw v _) ?_;rintro u w4 ⟨rfl,O⟩;rw [hv];refine ρ ?_;refine cl (Jyj (hw.ext (C.trans O)) (hn.le om).len) ?_;rintro wn w5 ⟨a9,am,a6⟩;have a8:=(C.trans O).trans a6;obtain ⟨A,c,rfl,hc,hm,au⟩:=id a9;have aq:0<(Jj x).length:=by
  rcases Nat.eq_zero_or_pos (Jj x).length with h1|h1
  .have:=List.eq_nil_of_length_eq_zero h1;have e:=Zg x;rw [this]at e;exact absurd e.symm h0
  .exact h1
 refine ρ ?_;refine cf ?_ ?_
 .exact Jzl om
 refine ρ ?_;refine drN (λ_=>False) 10 [(0,0),(0,1),(0,2),(0,3),(0,4),(0,5),(0,6),(0,7),(1,8),(0,9),(2,10),(2,11)] kr ?_;have a2:Ext w5 w5.drew:=(Ext.refl w5).drew;have o:=(O.trans a6).trans a2;have J:=ag.ext o;have af:=a1.ext o;have ad:=ae.ext o;have Z:=a8.trans a2;refine ρn ?_;refine nld (Jp (J.at (i:=0) rfl) (λe=>e)) ?_;refine ρn ?_;refine Qe (cs:=[.bool d,.pointer q]) (λw' hg j u hu=>(Jv J hg (λe=>e)).at hu) ?_;refine ρn ?_;refine nld (Jp (J.at (i:=1) rfl) (λe=>e)) ?_;refine ρn ?_;refine Qe (cs:=v.cells) (λw' hg j u hu=>(Jv af hg (λe=>e)).at hu) ?_;refine ρn ?_;refine Jjg (Qtb v _ A _ c rfl) ?_;refine ρn ?_;refine nop ?_;have aa:b3<w3.heap.size:=ae.lt;have ar:=C.size;have ac:∀ k,(N k∨k=b3)->k<w3.heap.size:=λk G=>G.elim (λh=>nM (hN k h) C.size) (λe=>by rw [e];exact aa);have hh:TrV (λk=>N k∨k=b3) w5.drew t (.pointer q):=(h.old (N':=λk=>N k∨k=b3) λk G=>G.imp id λe=>by rw [e];exact nL (a5.trans U).size ab).ext Z
 have ai:NatX (λk=>N k∨k=b3) w5.drew (.slice A (Jj x).length c) x:=am.x (a9.ext a2) λk G=>nM (ac k G) O.size;refine cl (Qfh t _ _ hh ai (λk G=>nM (ac k G) o.size) hn hs) ?_;rintro u w6 ⟨hu,a3⟩;obtain ⟨q2,rfl⟩:=hu.ptr;refine ρ ?_;refine Jb (GrN.ext a3) ?_;refine ρn ?_;refine Jjg (Qsl d q2) ?_;refine ρn ?_;refine Xy ?_;refine stW (ad.ext a3) ?_;intro w7 an ak ah;refine ρ ?_;refine Uv ?_;refine Xy ?_;refine ρ ?_;have a7:Ext w w7:=ah w (Z.trans a3) (nL (a5.trans U).size ab);have aj:=(hu.gr (GrN.by ak (λk G=>.inr (by injection G with G;exact G.symm)))).old (N':=N) λk G=>.inl (.inl G);exact Zp an ⟨_,rfl,aj,a7⟩
open Go.RowKit Pl Go.Wk
variable {d:Bool}{t:Tr}
theorem Jmv{N:Nat->Prop}{J:Tr->World->Prop}{D:World->Prop}{fid:FuncId}{cap:Array Value}{p:Value}{w:World}(hp:TrV N w t p)(hj:J t w)(hht:t.ht<=1000000)(hx:∀ s w w',J s w->Ext w w'->J s w')(hnil:∀ w,J .nil w->D w)(hcall:∀ l v x r u w,TrV N w (.node l v x r) u->J (.node l v x r) w->Ret Tryz.prog fid ((#[]:Array Value).toList++[u]++cap.toList) w λz w'=>∃ c,z=.int .i64 c/\GrN N w w'/\(c<0->J l w')/\(0<c->J r w')/\(c=0->D w')):
  Ret Tryz.prog 151 [.agg #[.bool d,p],.func (.func fid) #[] cap] w λz w'=>(∃ k:Nat,z=.int .i64 (k:Int)/\k<=t.ht)/\D w'/\GrN N w w':=by
 obtain ⟨q,rfl⟩:=hp.ptr;refine Jz Tryz.func151 Tryz.ntmps151 rfl kr rfl ?_;refine ρ ?_;refine bx ?_;intro w1 b O hb hB;refine ρ ?_;refine ld (hB.at (i:=1) rfl) ?_;refine ρ ?_;refine Xm (fun (k:Nat) (s:Tr) (q:Option Addr)=>[(1,.func (.func fid) #[] cap),(5,.int .i64 (k:Int)),(6,.pointer q)])
  (λk s q w'=>k+s.ht<=t.ht/\TrV N w' s (.pointer q)/\J s w'/\GrN N w w') (λ_ s _=>s.sz) 0 t q sB
  ⟨om,hp.ext O,hx _ _ _ hj O,GrN.ext O⟩ ?_
 rintro k s q2 w2 ⟨hk,hs,a1,a2⟩;refine ρ ?_;cases s with
 | nil=>
  obtain rfl:q2=none:=by have:Value.pointer q2=.pointer none:=hs;injection this
  refine pnn ?_;refine ρ ?_;refine Jq ⟨⟨k,rfl,om⟩,hnil _ a1,a2⟩
 | node l v x r=>
  obtain ⟨bn,wn,pl,pr,sn,e,⟨a3,Z⟩,a8,a9,hl,hr⟩:=id hs;obtain rfl:q2=some ⟨bn,0,none⟩:=by injection e
  obtain ⟨ql,rfl⟩:=hl.ptr;obtain ⟨qr,rfl⟩:=hr.ptr;have a7:l.ht+1<=(Tr.node l v x r).ht:=by simp only [Tr.ht];omega
  have a6:r.ht+1<=(Tr.node l v x r).ht:=by simp only [Tr.ht];omega
  have a5:l.sz<(Tr.node l v x r).sz:=by simp only [Tr.sz];omega
  have a4:r.sz<(Tr.node l v x r).sz:=by simp only [Tr.sz];omega
  refine pnn ?_;refine ρ ?_;refine clv (hcall l v x r _ w2 hs a1) ?_;rintro z w3 ⟨c,rfl,C,k1,k2,k3⟩;have hg:=a2.trans C;have G:=Jv a3 C Z;refine ρ ?_;refine ci (λU=>?_) (λU=>?_)
  .have U:=oT U;refine ρ ?_;refine ld (G.at (i:=4) rfl) ?_;refine ρ ?_;exact Qt (k+1) l ql sO ⟨om,hl.gr C,k1 U,hg⟩ om
  have U:=oF U;refine ρ ?_;refine ci (λo=>?_) (λo=>?_)
  .have o:=oT o;refine ρ ?_;refine ld (G.at (i:=5) rfl) ?_;refine ρ ?_;exact Qt (k+1) r qr sO ⟨om,hr.gr C,k2 o,hg⟩ om
  have o:=oF o;refine ρ ?_;refine Jq ⟨⟨k+1,rfl,om⟩,k3 om,hg⟩
structure BefB(bT bV bS bF:Nat)(d:Bool)(q:Option Addr)(v:V)(w:World)(sv:Value)(f:Bool): Prop where
 tb:Blk w bT 138 [.bool d,.pointer q]
 vb:Blk w bV 47 v.cells
 sb:Blk w bS 29 [sv]
 fb:Blk w bF 4 [.bool f]
theorem BefB.ext{bT bV bS bF:Nat}{d:Bool}{q:Option Addr}{v:V}{w w':World}{sv:Value}{f:Bool}(h:BefB bT bV bS bF d q v w sv f)(hx:Ext w w'): BefB bT bV bS bF d q v w' sv f :=
 ⟨h.tb.ext hx,h.vb.ext hx,h.sb.ext hx,h.fb.ext hx⟩
def BefJ(bT bV bS bF:Nat)(d:Bool)(q:Option Addr)(v:V)(t:Tr)(s:Tr)(w:World): Prop :=
 ∃ sv m,BefB bT bV bS bF d q v w sv false/\NatX (λk=>k=bS∨k=bF) w sv m/\m+Tr.befT d v s=Tr.befT d v t/\Tr.hasT d v s=Tr.hasT d v t/\m+s.sum<=t.sum
def BefD(bT bV bS bF:Nat)(d:Bool)(q:Option Addr)(v:V)(t:Tr)(w:World): Prop :=
 ∃ sv,BefB bT bV bS bF d q v w sv (Tr.hasT d v t)/\NatX (λk=>k=bS∨k=bF) w sv (Tr.befT d v t)
theorem Qtn{bT bV bS bF:Nat}{q:Option Addr}{v:V}(hne:bT≠bS/\bT≠bF/\bV≠bS/\bV≠bF/\bS≠bF)(hb:Nb t.sum):
  ∀ l a x r u w,TrV (λk=>k=bS∨k=bF) w (.node l a x r) u->BefJ bT bV bS bF d q v t (.node l a x r) w ->
  Ret Tryz.prog 152 ((#[]:Array Value).toList++[u]++(#[.pointer (some ⟨bT,0,none⟩),.pointer (some ⟨bV,0,none⟩),.pointer (some ⟨bS,0,none⟩),.pointer (some ⟨bF,0,none⟩)]:Array Value).toList) w λz w'=>∃ c,z=.int .i64 c/\GrN (λk=>k=bS∨k=bF) w w'/\(c<0->BefJ bT bV bS bF d q v t l w')/\(0<c->BefJ bT bV bS bF d q v t r w')/\(c=0->BefD bT bV bS bF d q v t w'):=by
 obtain ⟨n1,n2,n3,n4,n5⟩:=hne;rintro l a x r u w hs ⟨sv,m,hB,hm,e1,e2,e3⟩;obtain ⟨bn,wn,pl,pr,sn,rfl,⟨ae,ak⟩,ax,bb,hl,hr⟩:=id hs;obtain ⟨ql,rfl⟩:=hl.ptr;obtain ⟨qr,rfl⟩:=hr.ptr;simp only [Tr.sum]at e3;refine Jz Tryz.func152 Tryz.ntmps152 rfl kr rfl ?_;refine ρ ?_;have ad:Ext w w.drew:=(Ext.refl w).drew;have av:=hB.ext ad;have aq:=ae.ext ad;refine dr [(0,0),(0,1),(0,2),(0,3),(0,4),(0,5),(0,6),(1,7),(0,8)] kr ?_;refine ρd ?_;refine Qw (cs:=[.bool d,.pointer q]) (λj u hu=>av.tb.at hu) ?_;refine ρd ?_;refine Qw (cs:=v.cells) (λj u hu=>av.vb.at hu) ?_;refine ρd ?_;refine Qw (cs:=a.cells) (Blk.pre (cs:=a.cells) aq) ?_;refine ρd ?_;refine dcl (Qxv (a:=v) (b:=a)) ?_;rintro u w1 ⟨rfl,ah⟩;refine ⟨ah,?_⟩;refine ρd ?_;have U:=ad.trans ah;have aw:=hB.ext U;have b3:=hm.ext U;refine ρ ?_;refine ci (λhc=>?_) (λhc=>?_)
 .have hc:=oT hc;refine ρ ?_;refine Jq ⟨neg d (cmpV v a),rfl,GrN.ext U,λ_=>⟨sv,m,aw,b3,?_,?_,om⟩,λh=>om,λh=>om⟩
  .rw [<-e1,Tr.befT,if_pos hc]
  .rw [<-e2,Tr.hasT,if_pos hc]
 have hc:=oF hc;have a9:Ext w1 w1.drew:=(Ext.refl w1).drew;have O:=U.trans a9;have au:=ae.ext O;have G:=aw.ext a9;refine ρ ?_;refine drN (λ_=>False) 10 [(0,0),(0,1),(0,2),(0,3),(0,4),(1,5),(1,6),(2,7)] kr ?_;refine ρn ?_;refine nld (Jp (G.sb.at (i:=0) rfl) (λe=>e)) ?_;refine ρn ?_;refine nld (Jp (au.at (i:=4) rfl) (λe=>e)) ?_;refine ρn ?_;refine nop ?_;refine cl (Jqm (hl.ext O)) ?_;rintro ul w2 ⟨ay,rfl⟩;refine ρ ?_;refine Jb (GrN.refl _ _) ?_;refine ρn ?_;refine nop ?_;refine cl (Km (hm.ext O).1 ay.1 (hb.le om).len (hb.le om).len) ?_;rintro us w3 ⟨aj,b4,a2⟩;refine ρ ?_;refine Jb (GrN.ext a2) ?_;refine ρn ?_;refine Xy ?_;obtain ⟨A3,c3,rfl,bd,_⟩:=id aj;refine Gd (G.ext a2).sb ?_ rfl;intro w4 b6 a8 ba;refine ρ ?_;have ag:=G.ext a2;have ai:=O.trans a2;have ap:∀ k,(k=bS∨k=bF)->k<w1.drew.heap.size:=λk J=>J.elim (λe=>by rw [e];exact G.sb.lt) (λe=>by rw [e];exact G.fb.lt)
 have b2:NatX (λk=>k=bS∨k=bF) w3 (.slice A3 (Jj (m+l.sum)).length c3) (m+l.sum):=b4.x aj ap;have a3:GrN (λk=>k=bS∨k=bF) w3 w4:=GrN.by a8 λk J=>.inl (by injection J with J;exact J.symm)
 have am:=b2.gr a3;have a5:BefB bT bV bS bF d q v w4 (.slice A3 (Jj (m+l.sum)).length c3) false:=⟨ag.tb.grown a8 (by simpa using n1),ag.vb.grown a8 (by simpa using n3),b6,ag.fb.grown a8 (by simpa using n5.symm)⟩;have Z:GrN (λk=>k=bS∨k=bF) w w4:=(GrN.ext ai).trans a3;refine ci (λC=>?_) (λC=>?_)
 .have C:neg d (cmpV v a)=0:=Xd C;refine ρ ?_;refine Gd a5.fb ?_ rfl;intro w5 b7 a7 a1;refine ρ ?_;have ac:GrN (λk=>k=bS∨k=bF) w4 w5:=GrN.by a7 λk J=>.inr (by injection J with J;exact J.symm)
  refine Jq ⟨0,rfl,Z.trans ac,λh=>om,λh=>om,λ_=>⟨_,⟨a5.tb.grown a7 (by simpa using n2),a5.vb.grown a7 (by simpa using n4),a5.sb.grown a7 (by simpa using n5),?_⟩,?_⟩⟩
  .rw [<-e2,Tr.hasT,if_neg hc,if_pos C];exact b7
  .rw [<-e1,Tr.befT,if_neg hc,if_pos C];exact am.gr ac
 have C:neg d (cmpV v a)≠0:=Xf C;have o:Ext w4 w4.drew:=(Ext.refl w4).drew;have a4:=a5.ext o;have ar:=(Jv ae Z ak).ext o;refine ρ ?_;refine drN (λ_=>False) 10 [(0,0),(0,1),(0,2),(0,3),(0,4),(0,5),(1,6),(2,7)] kr ?_;refine ρn ?_;refine nld (Jp (a4.sb.at (i:=0) rfl) (λe=>e)) ?_;refine ρn ?_;refine nld (Jp (ar.at (i:=3) rfl) (λe=>e)) ?_;refine ρn ?_;refine nop ?_;refine cl (Km (am.ext o).1 ((ax.gr Z).ext o).1 (hb.le om).len (hb.le om).len) ?_;rintro b8 w5 ⟨aa,ao,a1⟩;refine ρ ?_;refine Jb (GrN.ext a1) ?_;refine ρn ?_;refine Xy ?_;obtain ⟨A5,c5,rfl,bc,_⟩:=id aa;refine Gd (a4.ext a1).sb ?_ rfl;intro w6 b5 a6 b9;refine ρ ?_;have af:=a4.ext a1;have b1:NatX (λk=>k=bS∨k=bF) w5 (.slice A5 (Jj (m+l.sum+x)).length c5) (m+l.sum+x):=ao.x aa λk J=>nM (ap k J) (nL a2.size (a3.trans (GrN.ext o)).size);have ab:GrN (λk=>k=bS∨k=bF) w5 w6:=GrN.by a6 λk J=>.inl (by injection J with J;exact J.symm)
 have an:GrN (λk=>k=bS∨k=bF) w w6:=((Z.trans (GrN.ext o)).trans (GrN.ext a1)).trans ab;refine Jq ⟨neg d (cmpV v a),rfl,an,λh=>om,λh=>⟨_,m+l.sum+x,⟨af.tb.grown a6 (by simpa using n1),af.vb.grown a6 (by simpa using n3),b5,af.fb.grown a6 (by simpa using n5.symm)⟩,b1.gr ab,?_,?_,om⟩,λh=>om⟩
 .rw [<-e1,Tr.befT,if_neg hc,if_neg C];omega
 .rw [<-e2,Tr.hasT,if_neg hc,if_neg C]
end Go.Proofs.YtebcagekopgdhaaGreatDoor
namespace Go.Wk
theorem finC4{P:Program}{n:Nat}{al:AL}{w:World}{tt:TT}[h:Tab P tt]{fn:Func}{Φ:Value->World->Prop}{c t t1 t2 t3 b:Nat}{k:TK}{cs:List Value}{x y z:Value}(hb:Blk w b t cs)(hp:Φ (.tuple #[.agg cs.toArray,x,y,z]) w)(hr:fn.results = #[.cell c t,.tmp t1,.tmp t2,.tmp t3]:=by rfl)(ht:tk tt t=some k:=by rfl)(hk:k.desc=.invalid:=by rfl)(hs:k.size=cs.length:=by rfl)(hc:lk al c=some (.pointer (some ⟨b,0,none⟩)):=by rfl)(h1:lk al t1=some x:=by rfl)(h2:lk al t2=some y:=by rfl)(h3:lk al t3=some z:=by rfl):
  QX n (Vz P fn Φ) .ret al w :=
 Jzb (rs:=[.cell c t,.tmp t1,.tmp t2,.tmp t3]) (vs:=[.agg cs.toArray,x,y,z]) hr ⟨⟨_,hc,Ia h.ok ht hk hs (λj u o=>hb.at o)⟩,h1,h2,h3,trivial⟩ rfl hp
end Go.Wk
namespace Go.Proofs.YtebcagekopgdhaaGreatDoor
open Go.RowKit Pl Go.Wk
attribute [local irreducible] WC WL QX WD WDB WP WN WG
variable {d:Bool}{a b k:Nat}{N:Nat->Prop}{t:Tr}{p:Value}{w:World}
theorem zNat: Qp Tryz.prog 29=some (.slice none 0 0):=kr
theorem Jlq: Qp Tryz.prog 4=some (.bool false):=kr
theorem Qkj{v:V}(h:TrV N w t p)(hb:Nb t.sum)(hs:t.sz<=1000000):
  Ret Tryz.prog 98 [.agg #[.bool d,p],v.val] w λu w'=>∃ sv,∃ k:Nat,u=.tuple #[sv,.bool (Tr.hasT d v t),.int .i64 (k:Int)]/\k<=t.ht/\NatV w' sv (Tr.befT d v t)/\Ext w w':=by
 obtain ⟨q,rfl⟩:=h.ptr;refine Jz Tryz.func98 Tryz.ntmps98 rfl kr rfl ?_;refine ρ ?_;refine bx ?_;intro w1 bT a9 au hT;refine ρ ?_;refine bx (cs:=v.cells) ?_;intro w2 bV a7 ar hV;refine ρ ?_;refine alc zNat ?_;intro w3 U C av hS;refine ρ ?_;refine alc Jlq ?_;intro w4 Z a8 af hF;refine ρ ?_;refine Gd hF ?_ rfl;intro w5 ai aq ac;have lT:=hT.lt;have lV:=hV.lt;have lS:=hS.lt;have an:=a7.size;have am:=C.size;have ak:=a8.size;have nT:bT≠U/\bT≠Z/\bV≠U/\bV≠Z/\U≠Z:=⟨om,om,om,om,om⟩;obtain ⟨n1,n2,n3,n4,n5⟩:=nT;have o:Ext w3 w5:=ac w3 a8 af;have G:Ext w w5:=((a9.trans a7).trans C).trans o;have ab:=((hT.ext a7).ext C).ext o;have ag:=(hV.ext C).ext o;have ah:=hS.ext o;have ao:=a9.size;have hN:TrV (λk=>k=U∨k=Z) w5 t (.pointer q):=(h.old (N':=λk=>k=U∨k=Z) λk hk=>.inr (by rcases hk with rfl|rfl<;>omega)).ext G;have ap:=Tr.ht_le t;refine ρ ?_;refine ldW ab ?_
 refine ρ ?_;refine cl (Jmv (N:=λk=>k=U∨k=Z) (J:=BefJ bT bV U Z d q v t) (D:=BefD bT bV U Z d q v t) hN ⟨_,0,⟨ab,ag,ah,ai⟩,NatX.nil _,om,rfl,om⟩ om ?_ ?_ (Qtn ⟨n1,n2,n3,n4,n5⟩ hb)) ?_
 .rintro s w w' ⟨sv,m,a1,a2,a3,a4,a5⟩ hx;exact ⟨sv,m,a1.ext hx,a2.ext hx,a3,a4,a5⟩
 .rintro w ⟨sv,m,a1,a2,a3,a4,a5⟩;simp only [Tr.befT,Tr.hasT,Nat.add_zero]at a3 a4;refine ⟨sv,?_,?_⟩
  .rw [<-a4];exact a1
  .rw [<-a3];exact a2
 rintro z w6 ⟨⟨k,rfl,hk⟩,⟨sv,aj,ad⟩,ae⟩;have aa:Ext w w6:=ae.old G λk hk=>by rcases hk with rfl|rfl<;>omega
 have a6:Ext w6 w6.drew:=(Ext.refl w6).drew;have O:=aj.ext a6;refine ρ ?_;refine dr [(0,0),(0,1),(0,2),(0,3),(0,4),(0,5)] kr ?_;refine ρd ?_;refine dld (O.sb.at (i:=0) rfl) ?_;refine ρd ?_;refine dld (O.fb.at (i:=0) rfl) ?_;refine ρd ?_;refine ρ ?_;exact Zb ⟨sv,k,rfl,hk,(ad.ext a6).1,aa.trans a6⟩
structure FndB(bS bK bV bR:Nat)(w:World)(sv kv:Value)(v:V): Prop where
 sb:Blk w bS 29 [sv]
 kb:Blk w bK 29 [kv]
 vb:Blk w bV 47 v.cells
 rb:Blk w bR 47 V0.cells
theorem FndB.ext{bS bK bV bR:Nat}{w w':World}{sv kv:Value}{v:V}(h:FndB bS bK bV bR w sv kv v)(hx:Ext w w'): FndB bS bK bV bR w' sv kv v:=⟨h.sb.ext hx,h.kb.ext hx,h.vb.ext hx,h.rb.ext hx⟩
def FndJ(bS bK bV bR:Nat)(kv:Value)(k:Nat)(t:Tr)(s:Tr)(w:World): Prop :=
 ∃ sv m v,FndB bS bK bV bR w sv kv v/\NatX (λj=>j=bS∨j=bV∨j=bR) w sv m/\NatX (λj=>j=bS∨j=bV∨j=bR) w kv k/\m<=k/\k<m+s.sum/\m+s.sum<=t.sum/\Tr.findT k t=((Tr.findT (k-m) s).1,m+(Tr.findT (k-m) s).2)
def FndD(bS bK bV bR:Nat)(kv:Value)(k:Nat)(t:Tr)(w:World): Prop :=
 ∃ sv,FndB bS bK bV bR w sv kv (Tr.findT k t).1/\NatX (λj=>j=bS∨j=bV∨j=bR) w sv (Tr.findT k t).2
theorem cmpN_lt: Ve a b<0↔a<b:=by
 unfold Ve;split
 .omega
 .split<;>omega
theorem Qnn{bS bK bV bR:Nat}{kv:Value}(hne:bS≠bK/\bS≠bV/\bK≠bV/\bS≠bR/\bV≠bR)(hb:Nb t.sum):
  ∀ l a x r u w,TrV (λj=>j=bS∨j=bV∨j=bR) w (.node l a x r) u->FndJ bS bK bV bR kv k t (.node l a x r) w ->
  Ret Tryz.prog 155 ((#[]:Array Value).toList++[u]++(#[.pointer (some ⟨bS,0,none⟩),.pointer (some ⟨bK,0,none⟩),.pointer (some ⟨bV,0,none⟩)]:Array Value).toList) w λz w'=>∃ c,z=.int .i64 c/\GrN (λj=>j=bS∨j=bV∨j=bR) w w'/\(c<0->FndJ bS bK bV bR kv k t l w')/\(0<c->FndJ bS bK bV bR kv k t r w')/\(c=0->FndD bS bK bV bR kv k t w'):=by
 obtain ⟨n1,n2,n3,n4,n5⟩:=hne;rintro l a x r u w hs ⟨sv,m,v,hB,hm,hk,e1,e2,e3,e4⟩;obtain ⟨bn,wn,pl,pr,sn,rfl,⟨ac,av⟩,am,ax,hl,hr⟩:=id hs;obtain ⟨ql,rfl⟩:=hl.ptr;obtain ⟨qr,rfl⟩:=hr.ptr;simp only [Tr.sum]at e2 e3;refine Jz Tryz.func155 Tryz.ntmps155 rfl kr rfl ?_;refine ρ ?_;have a1:Ext w w.drew:=(Ext.refl w).drew;have a8:=hB.ext a1;have ag:=ac.ext a1;refine dr [(0,0),(0,1),(0,2),(0,3),(0,4),(1,5),(1,6),(0,7)] kr ?_;refine ρd ?_;refine dld (a8.sb.at (i:=0) rfl) ?_;refine ρd ?_;refine dld (ag.at (i:=4) rfl) ?_;refine ρd ?_;refine dcl (Jqm (hl.ext a1)) ?_;rintro ul w1 ⟨an,rfl⟩;refine ⟨Ext.refl _,?_⟩;refine ρd ?_;refine dcl (Km (hm.ext a1).1 an.1 (hb.le om).len (hb.le om).len) ?_;rintro us w2 ⟨ad,ao,ab⟩;refine ⟨ab,?_⟩;refine ρd ?_;have a2:=a1.trans ab;have aj:=hB.ext a2;refine ρ ?_;refine ld (aj.kb.at (i:=0) rfl) ?_;refine ρ ?_;refine cl (Jjj (hk.ext a2).1 ad) ?_
 rintro u w3 ⟨rfl,a6⟩;have o:=a2.trans a6;have ai:=aj.ext a6;have af:∀ j,(j=bS∨j=bV∨j=bR)->j<w.drew.heap.size:=λj O=>O.elim (λe=>by rw [e];exact a8.sb.lt) (λe=>e.elim (λe=>by rw [e];exact a8.vb.lt) (λe=>by rw [e];exact a8.rb.lt));have a3:NatX (λj=>j=bS∨j=bV∨j=bR) w3 us (m+l.sum):=ao.x (ad.ext a6) af;refine ρ ?_;refine ci (λhc=>?_) (λhc=>?_)
 .have hc:k<m+l.sum:=cmpN_lt.1 (oT hc);refine ρ ?_;refine Jq ⟨-1,rfl,GrN.ext o,λ_=>⟨sv,m,v,ai,hm.ext o,hk.ext o,e1,hc,om,?_⟩,λh=>om,λh=>om⟩;rw [e4,Tr.findT,if_pos om]
 have hc:¬ k<m+l.sum:=λh=>oF hc (cmpN_lt.2 h);refine ρ ?_;refine ld ((ac.ext o).at (i:=3) rfl) ?_;refine ρ ?_;refine cl (Km a3.1 (am.ext o).1 (hb.le om).len (hb.le om).len) ?_;rintro ua w4 ⟨ae,ap,a5⟩;have ah:=ai.ext a5;refine ρ ?_;refine ld (ah.kb.at (i:=0) rfl) ?_;refine ρ ?_;refine cl (Jjj ((hk.ext o).ext a5).1 ae) ?_;rintro u w5 ⟨rfl,a4⟩;have U:=(o.trans a5).trans a4;have J:=ah.ext a4;have a9:NatX (λj=>j=bS∨j=bV∨j=bR) w5 ua (m+l.sum+x):=ap.x (ae.ext a4) λj O=>nM (af j O) (ab.trans a6).size;obtain ⟨A1,c1,ea,_⟩:=id a9.1;obtain ⟨A2,c2,es,_⟩:=id a3.1;have oa:ua.oneCell'=true:=by rw [ea];rfl
 have os:us.oneCell'=true:=by rw [es];rfl
 refine ρ ?_;refine ci (λZ=>?_) (λZ=>?_)
 .have Z:m+l.sum+x<=k:=by
   have:=oT Z;rcases Nat.lt_or_ge k (m+l.sum+x) with h|h
   .have:=cmpN_lt.2 h;omega
   .exact h
  refine ρ ?_;refine Gd J.sb ?_ oa;intro w6 au G ak;refine ρ ?_;have C:GrN (λj=>j=bS∨j=bV∨j=bR) w5 w6:=GrN.by G λj O=>.inl (by injection O with O;exact O.symm)
  refine Jq ⟨1,rfl,(GrN.ext U).trans C,λh=>om,λ_=>⟨ua,m+l.sum+x,v,⟨au,J.kb.grown G (by simpa using n1.symm),J.vb.grown G (by simpa using n2.symm),J.rb.grown G (by simpa using n4.symm)⟩,a9.gr C,(hk.ext U).gr C,Z,om,om,?_⟩,λh=>om⟩;rw [e4,Tr.findT,if_neg om,if_pos om,show k-m-(l.sum+x)=k-(m+l.sum+x) by omega];simp only [Prod.mk.injEq,true_and];omega
 have Z:k<m+l.sum+x:=by
  rcases Nat.lt_or_ge k (m+l.sum+x) with h|h
  .exact h
  .exact absurd (Int.not_lt.1 λh'=>by have:=cmpN_lt.1 h';omega) (oF Z)
 have e5:Tr.findT k t=(a,m+l.sum):=by rw [e4,Tr.findT,if_neg om,if_neg om]
 refine ρ ?_;refine lds (cs:=a.cells) (Blk.pre (cs:=a.cells) (ac.ext U)) ?_;refine ρ ?_;refine stb (cs':=a.cells) J.vb ?_ (V.one a);intro w6 aq G ak;refine ρ ?_;refine Gd (J.sb.grown G (by simpa using n2)) ?_ os;intro w7 ar a7 aw;refine ρ ?_;have C:GrN (λj=>j=bS∨j=bV∨j=bR) w5 w6:=GrN.by G λj O=>.inr (.inl (by injection O with O;exact O.symm))
 have aa:GrN (λj=>j=bS∨j=bV∨j=bR) w6 w7:=GrN.by a7 λj O=>.inl (by injection O with O;exact O.symm)
 refine Jq ⟨0,rfl,((GrN.ext U).trans C).trans aa,λh=>om,λh=>om,λ_=>⟨us,⟨ar,(J.kb.grown G (by simpa using n3)).grown a7 (by simpa using n1.symm),?_,(J.rb.grown G (by simpa using n5.symm)).grown a7 (by simpa using n4.symm)⟩,?_⟩⟩
 .rw [e5];exact aq.grown a7 (by simpa using n2.symm)
 .rw [e5];exact (((a3.ext a5).ext a4).gr C).gr aa
theorem Qnm{kv:Value}(h:TrV N w t p)(hkv:NatV w kv k)(hk:k<t.sum)(hb:Nb t.sum)(hs:t.sz<=1000000):
  Ret Tryz.prog 101 [.agg #[.bool d,p],kv] w λu w'=>∃ sv,∃ n:Nat,u=.tuple #[(Tr.findT k t).1.val,sv,.int .i64 (n:Int),.int .i64 0]/\n<=t.ht/\NatV w' sv (Tr.findT k t).2/\Ext w w':=by
 obtain ⟨q,rfl⟩:=h.ptr;obtain ⟨Ak,ck,ek,_⟩:=id hkv;refine Jz Tryz.func101 Tryz.ntmps101 rfl kr rfl ?_;refine ρ ?_;refine bx ?_;intro w1 bT ac ba hT;refine ρ ?_;refine bx (cs:=[kv]) ?_ (hv:=by rw [ek];rfl);intro w2 bK a9 bc hK;refine ρ ?_;refine alc (cs:=V0.cells) Ur ?_;intro w3 bR a8 au hR;have aa:=(ac.trans a9).trans a8;have C:Ext w3 w3.drew:=(Ext.refl w3).drew;have G:=aa.trans C;have ah:=(hT.ext a9).ext a8;have ai:=hK.ext a8;refine ρ ?_;refine dr [(0,0),(0,1),(0,2),(1,3),(1,4),(0,5)] kr ?_;refine ρd ?_;refine dld ((ai.ext C).at (i:=0) rfl) ?_;refine ρd ?_;refine dld ((ah.ext C).at (i:=1) rfl) ?_;refine ρd ?_;refine dcl (Jqm (h.ext G)) ?_;rintro ut w4 ⟨ao,rfl⟩;refine ⟨Ext.refl _,?_⟩;refine ρd ?_;refine dcl (Jjj (hkv.ext G) ao.1) ?_;rintro u w4 ⟨rfl,a7⟩;refine ⟨a7,?_⟩;refine ρd ?_;have am:¬ (0<=Ve k t.sum):=Int.not_le.2 (cmpN_lt.2 hk);refine ρ ?_
 refine cf (dF am) ?_;have b1:=G.trans a7;refine ρ ?_;refine alc (cs:=V0.cells) Ur ?_;intro w5 U ad b9 hV;refine ρ ?_;refine alc zNat ?_;intro w6 Z ab bb hS;have lT:=hT.lt;have lK:=hK.lt;have lR:=hR.lt;have lV:=hV.lt;have b7:=ac.size;have b6:=a9.size;have b5:=a8.size;have b4:=(C.trans a7).size;have b3:=ad.size;have b2:=ab.size;have n1:Z≠bK:=om
 have n2:Z≠U:=om
 have n3:bK≠U:=om
 have n4:Z≠bR:=om
 have n5:U≠bR:=om
 have o:Ext w3 w6:=((C.trans a7).trans ad).trans ab;have O:Ext w w6:=aa.trans o;have aw:=ah.ext o;have ay:=ai.ext o;have av:=hV.ext ab;have hN:TrV (λk=>k=Z∨k=U∨k=bR) w6 t (.pointer q):=(h.old (N':=λk=>k=Z∨k=U∨k=bR) λk hk=>.inr (by rcases hk with rfl|rfl|rfl<;>omega)).ext O;have aq:NatX (λk=>k=Z∨k=U∨k=bR) w kv k:=NatX.old (N:=λ_=>False) ⟨hkv,λ_ _ _ _ _ h=>h⟩ λk hk=>.inr (by rcases hk with rfl|rfl|rfl<;>omega);have b8:=Tr.ht_le t;refine ρ ?_;refine ldW aw ?_;refine ρ ?_;refine cl (Jmv (N:=λk=>k=Z∨k=U∨k=bR) (J:=FndJ Z bK U bR kv k t) (D:=FndD Z bK U bR kv k t) hN ⟨_,0,V0,⟨hS,ay,av,hR.ext o⟩,NatX.nil _,aq.ext O,om,om,om,by simp⟩ om ?_ ?_ (Qnn ⟨n1,n2,n3,n4,n5⟩ hb)) ?_
 .rintro s w w' ⟨sv,m,v,a1,a2,a3,a4⟩ hx;exact ⟨sv,m,v,a1.ext hx,a2.ext hx,a3.ext hx,a4⟩
 .rintro w ⟨sv,m,v,a1,a2,a3,a4,a5,_⟩;simp only [Tr.sum]at a5;omega
 rintro z w7 ⟨⟨n,rfl,hn⟩,⟨sv,ak,ap⟩,ar⟩;have ae:Ext w w7:=ar.old O λk hk=>by rcases hk with rfl|rfl|rfl<;>omega
 refine ρ ?_;refine drN (λk=>k=bR) 10 [(0,0),(0,1),(0,2),(1,3),(0,4),(0,5),(0,6)] kr ?_;have a6:Ext w7 w7.drew:=(Ext.refl w7).drew;have aj:=ak.ext a6;refine ρn ?_;refine Qe (cs:=(Tr.findT k t).1.cells) (λw' hg j u hu=>(Jv aj.vb hg n5).at hu) ?_;refine ρn ?_;refine nld (Jp (aj.sb.at (i:=0) rfl) n4) ?_;refine ρn ?_;refine nop ?_;refine stb (cs':=(Tr.findT k t).1.cells) (ak.rb.ext a6) ?_ (V.one _);intro w8 ax ag an;refine ρ ?_;refine Jb (GrN.by ag λj hj=>by injection hj with hj;exact hj.symm) ?_;refine ρn ?_;refine ρ ?_;have af:GrN (λk=>k=Z∨k=U∨k=bR) w7.drew w8:=GrN.by ag λj hj=>.inr (.inr (by injection hj with hj;exact hj.symm))
 exact finC4 ax ⟨sv,n,rfl,hn,((ap.ext a6).gr af).1,an w (ae.trans a6) (nL (ac.trans a9).size au)⟩
end Go.Proofs.YtebcagekopgdhaaGreatDoor
