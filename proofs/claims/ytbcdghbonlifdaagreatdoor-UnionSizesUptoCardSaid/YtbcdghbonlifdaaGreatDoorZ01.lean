/- Part 1. -/
import Derived.Test.YtbcdghbonlifdaaGreatDoorZ00
import Derived.Test.YtbcdghbonlifdaaGreatDoorRows
import Derived.IntWalk
import Derived.Laws.Cover3
import Derived.Lib.Bytealg
import Derived.Sort.AssemblyPlain
import Derived.Laws.Bits64b
set_option linter.unusedVariables false
set_option maxRecDepth 100000
set_option maxHeartbeats 40000000
namespace Go.Proofs.YtbcdghbonlifdaaGreatDoor
namespace Pl
variable {a b l:List UInt32}{i m n:Nat}{c:UInt32}
def val: List UInt32->Nat
 | []=>0
 | c::l=>c.toNat+4294967296*val l
def Jq(n:Nat): List UInt32:=if h:n=0 then[] else UInt32.ofNat n::Jq (n / 4294967296)
termination_by n
decreasing_by exact Nat.div_lt_self om (by decide)
theorem limbs_0: Jq 0=[]:=by rw[Jq];rfl
theorem Jbs(h:n≠0): Jq n=UInt32.ofNat n::Jq (n / 4294967296):=by rw[Jq,dif_neg h]
theorem Qtq(h:c.toNat+4294967296*m≠0): Jq (c.toNat+4294967296*m)=c::Jq m:=by
 have o:=c.toNat_lt;grind [Jbs,UInt32.toNat_inj.1,UInt32.toNat_ofNat']
def Xn: List UInt32->List UInt32
 | []=>[]
 | c::l=>if Xn l=[]/\c=0 then[] else c::Xn l
theorem val_0(h:Xn l=[]): val l=0:=by
 induction l with
 | nil=>rfl
 | cons c l ih=>
  simp only[Xn]at h;split at h
  .rename_i h2;rw[val,ih h2.1,h2.2];rfl
  cases h
theorem Iq: ∀ l:List UInt32,Xn l=Jq (val l)
 | []=>by rw[val,limbs_0];rfl
 | c::l=>by
  have ih:=Iq l;simp only[Xn,val];split
  .rename_i h;rw[val_0 h.1,h.2];exact limbs_0.symm
  rename_i h;rw[Qtq,ih];intro h0;apply h
  have hv:val l=0:=om
  refine⟨?_,?_⟩
  .rw[ih,hv,limbs_0]
  apply UInt32.toNat_inj.1
  grind
theorem Yw(n:Nat): val (Jq n)=n:=by
 induction n using Nat.strongRecOn with
 | ind n ih=>
  grind [limbs_0,Jbs,val,Nat.div_lt_self,UInt32.toNat_ofNat']
theorem Qfx(n:Nat): Xn (Jq n)=Jq n:=by rw[Iq,Yw]
theorem Jrq(l:List UInt32): Xn (l++[0])=Xn l:=by
 induction l with
 | nil=>rfl
 | cons c l ih=>simp only[List.cons_append,Xn,ih]
theorem Qfw(l:List UInt32)(h:c≠0): Xn (l++[c])=l++[c]:=by
 induction l with
 | nil=>simp[Xn,h]
 | cons d l ih=>simp only[List.cons_append,Xn,ih];simp
theorem Ko(a b:List UInt32): val (a++b)=val a+4294967296^a.length*val b:=by
 induction a with
 | nil=>simp[val]
 | cons c a ih=>rw[List.cons_append,val,val,ih,List.length_cons,Nat.pow_succ,Nat.mul_add,<-Nat.mul_assoc,Nat.mul_comm (4294967296^a.length) 4294967296];omega
theorem Jyk(a:List UInt32): val a<4294967296^a.length:=by
 induction a with
 | nil=>simp[val]
 | cons c a ih=>
  have o:c.toNat<4294967296:=c.toNat_lt;grind [val,List.length_cons,Nat.pow_succ,Nat.mul_le_mul_left,Nat.mul_comm]
theorem Qfc(l:List UInt32)(h:c≠0): 4294967296^l.length<=val (l++[c]):=by
 have o:0<c.toNat:=by
  rcases Nat.eq_zero_or_pos c.toNat with h0|h0
  .exact absurd (UInt32.toNat_inj.1 h0) h
  exact h0
 rw[Ko,val];have:4294967296^l.length*1<=4294967296^l.length*(c.toNat+4294967296*val []):=Nat.mul_le_mul_left _ om;omega
theorem Qtp(h:n≠0): ∃ l c,Jq n=l++[c]/\c≠0:=by
 rcases List.eq_nil_or_concat (Jq n) with h0|⟨l,c,h0⟩
 .have:=Yw n;rw[h0]at this;exact absurd this.symm h
 refine⟨l,c,by rw[h0];simp,λC=>?_⟩;subst C;have o:=Qfx n;rw[h0,List.concat_eq_append,Jrq]at o;have u:=congrArg List.length o;have D:(Xn l).length<=l.length:=by
  clear o u h0;induction l with
  | nil=>simp[Xn]
  | cons c l ih=>simp only[Xn];split<;>simp;exact ih
 simp at u;omega
theorem Jht(h:n≠0): 4294967296^((Jq n).length-1)<=n:=by
 obtain⟨l,c,u,o⟩:=Qtp h;grind [Qfc,Yw]
theorem Qtn(n:Nat): n<4294967296^(Jq n).length:=by grind [Jyk,Jq,Yw]
theorem Qxk(h:(Jq n).length<(Jq m).length): n<m:=by
 have o:m≠0:=by grind [limbs_0]
 have D:=Jht o;have C:=Qtn n;have u:4294967296^(Jq n).length<=4294967296^((Jq m).length-1):=Nat.pow_le_pow_right (by decide) om;omega
def Yq(n m:Nat): Int:=if n<m then -1 else if m<n then 1 else 0
theorem Qfb(ha:i<a.length)(hab:a.length=b.length)(ht:a.drop (i+1)=b.drop (i+1))(hl:(a.getD i 0).toNat<(b.getD i 0).toNat): val a<val b:=by
 have J:i<b.length:=om
 have G:a=a.take i++(a.getD i 0::a.drop (i+1)):=by grind [List.getD,List.getElem?_eq_getElem,List.drop_eq_getElem_cons,List.take_append_drop]
 have D:b=b.take i++(b.getD i 0::b.drop (i+1)):=by grind [List.getD,List.getElem?_eq_getElem,List.drop_eq_getElem_cons,List.take_append_drop]
 rw[G,D,Ko,Ko,val,val,ht];have C:(a.take i).length=i:=by grind
 have u:(b.take i).length=i:=by grind
 have o:=Jyk (a.take i);rw[C]at o ⊢;rw[u];have:4294967296^i*((a.getD i 0).toNat+1+4294967296*val (b.drop (i+1)))<=4294967296^i*((b.getD i 0).toNat+4294967296*val (b.drop (i+1))):=Nat.mul_le_mul_left _ om;grind
end Pl
open Go.RowKit Go.Wk
def tt: TT:=[(3,{ desc:=.int .i64 }),
 (2,{ desc:=.int .i64 }),
 (5,{ desc:=.int .u8 }),
 (54,{ desc:=.int .u32 }),
 (50,{ desc:=.int .u64 }),
 (96,{ desc:=.int .u64 }),
 (4,{ desc:=.bool }),
 (9,{ desc:=.string }),
 (34,{ desc:=.int .i64 }),
 (259,{ desc:=.int .i64 }),
 (285,{ desc:=.int .u64 }),
 (31,{ desc:=.slice 54,esz:=1 }),
 (28,{ desc:=.slice 4,esz:=1 }),
 (39,{ desc:=.slice 3,esz:=1 }),
 (233,{ desc:=.slice 5,esz:=1 }),
 (30,{ desc:=.slice 54,esz:=1 }),
 (46,{ desc:=.slice 118,esz:=3 }),
 (45,{ desc:=.slice 118,esz:=3 }),
 (37,{ desc:=.slice 46,esz:=1 }),
 (62,{ desc:=.slice 39,esz:=1 }),
 (63,{ desc:=.slice 37,esz:=1 }),
 (73,{ desc:=.slice 174,esz:=3 }),
 (40,{ desc:=.slice 100,esz:=3 }),
 (87,{ desc:=.slice 93,esz:=3 }),
 (74,{ desc:=.slice 87,esz:=1 }),
 (75,{ desc:=.slice 194,esz:=1 }),
 (136,{ desc:=.slice 179,esz:=1 }),
 (137,{ desc:=.slice 187,esz:=1 }),
 (180,{ desc:=.slice 232,esz:=2 }),
 (274,{ desc:=.slice 280,esz:=1 }),
 (271,{ desc:=.slice 274,esz:=1 }),
 (275,{ desc:=.slice 294,esz:=2 }),
 (309,{ desc:=.slice 31,esz:=1 }),
 (118,{ desc:=.invalid,size:=3,offs:=[0,1,2] }),
 (98,{ desc:=.invalid,size:=2,offs:=[0,1] }),
 (100,{ desc:=.invalid,size:=3,offs:=[0,1] }),
 (42,{ desc:=.invalid,size:=5,offs:=[0,1,2,3,4] }),
 (77,{ desc:=.invalid,size:=5,offs:=[0,1,2,3,4] }),
 (65,{ desc:=.invalid,size:=6,offs:=[0,1,2,3,4,5] }),
 (108,{ desc:=.invalid,size:=5,offs:=[0,1,2,3,4] }),
 (174,{ desc:=.invalid,size:=3,offs:=[0,1,2] }),
 (131,{ desc:=.invalid,size:=2,offs:=[0,1] }),
 (91,{ desc:=.invalid,size:=2,offs:=[0,1] }),
 (197,{ desc:=.invalid,size:=4,offs:=[0,3] }),
 (199,{ desc:=.invalid,size:=9,offs:=[0,4,5,6,7,8] }),
 (93,{ desc:=.invalid,size:=3,offs:=[0,1] }),
 (232,{ desc:=.invalid,size:=2,offs:=[0,1] }),
 (139,{ desc:=.invalid,size:=10,offs:=[0,5,6,7,8,9] }),
 (207,{ desc:=.invalid,size:=9,offs:=[0,5,6,7,8] }),
 (273,{ desc:=.invalid,size:=4,offs:=[0,1,2,3] }),
 (294,{ desc:=.invalid,size:=2,offs:=[0,1] }),
 (277,{ desc:=.invalid,size:=1,offs:=[0] }),
 (297,{ desc:=.invalid,size:=2,offs:=[0,1] }),
 (300,{ desc:=.invalid,size:=69,offs:=[0,1,2,4,68] }),
 (200,{ desc:=.pointer 207 }),
 (89,{ desc:=.pointer 199 }),
 (178,{ desc:=.pointer 139 }),
 (190,{ desc:=.pointer 93 }),
 (270,{ desc:=.pointer 273 }),
 (280,{ desc:=.pointer 300 }),
 (289,{ desc:=.pointer 3 }),
 (310,{ desc:=.pointer 285 }),
 (170,{ desc:=.array 32 3,size:=32,esz:=1 }),
 (171,{ desc:=.array 32 54,size:=32,esz:=1 }),
 (298,{ desc:=.array 32 297,size:=64,esz:=2 }),
 (305,{ desc:=.array 24 5,size:=24,esz:=1 }),
 (213,{ desc:=.func #[46] #[4] false }),
 (194,{ desc:=.map 9 3 }),
 (179,{ desc:=.map 9 4 }),
 (187,{ desc:=.map 9 31 }),
 (205,{ desc:=.map 3 91 }),
 (238,{ desc:=.func #[89] #[3] false })]
theorem Ij: TOk Tryz.prog tt:=⟨⟨kr,kr⟩,
 ⟨kr,kr⟩,
 ⟨kr,kr⟩,
 ⟨kr,kr⟩,
 ⟨kr,kr⟩,
 ⟨kr,kr⟩,
 ⟨kr,kr⟩,
 ⟨kr,kr⟩,
 ⟨kr,kr⟩,
 ⟨kr,kr⟩,
 ⟨kr,kr⟩,
 ⟨kr,kr,kr⟩,
 ⟨kr,kr,kr⟩,
 ⟨kr,kr,kr⟩,
 ⟨kr,kr,kr⟩,
 ⟨kr,kr,kr⟩,
 ⟨kr,kr,kr⟩,
 ⟨kr,kr,kr⟩,
 ⟨kr,kr,kr⟩,
 ⟨kr,kr,kr⟩,
 ⟨kr,kr,kr⟩,
 ⟨kr,kr,kr⟩,
 ⟨kr,kr,kr⟩,
 ⟨kr,kr,kr⟩,
 ⟨kr,kr,kr⟩,
 ⟨kr,kr,kr⟩,
 ⟨kr,kr,kr⟩,
 ⟨kr,kr,kr⟩,
 ⟨kr,kr,kr⟩,
 ⟨kr,kr,kr⟩,
 ⟨kr,kr,kr⟩,
 ⟨kr,kr,kr⟩,
 ⟨kr,kr,kr⟩,
 ⟨_,Tryz.underlying118,kr,kr⟩,
 ⟨_,Tryz.underlying98,kr,kr⟩,
 ⟨_,Tryz.underlying100,kr,kr⟩,
 ⟨_,Tryz.underlying42,kr,kr⟩,
 ⟨_,Tryz.underlying77,kr,kr⟩,
 ⟨_,Tryz.underlying65,kr,kr⟩,
 ⟨_,Tryz.underlying108,kr,kr⟩,
 ⟨_,Tryz.underlying174,kr,kr⟩,
 ⟨_,Tryz.underlying131,kr,kr⟩,
 ⟨_,Tryz.underlying91,kr,kr⟩,
 ⟨_,Tryz.underlying197,kr,kr⟩,
 ⟨_,Tryz.underlying199,kr,kr⟩,
 ⟨_,Tryz.underlying93,kr,kr⟩,
 ⟨_,Tryz.underlying232,kr,kr⟩,
 ⟨_,Tryz.underlying139,kr,kr⟩,
 ⟨_,Tryz.underlying207,kr,kr⟩,
 ⟨_,Tryz.underlying273,kr,kr⟩,
 ⟨_,Tryz.underlying294,kr,kr⟩,
 ⟨_,Tryz.underlying277,kr,kr⟩,
 ⟨_,Tryz.underlying297,kr,kr⟩,
 ⟨_,Tryz.underlying300,kr,kr⟩,
 ⟨kr,kr⟩,
 ⟨kr,kr⟩,
 ⟨kr,kr⟩,
 ⟨kr,kr⟩,
 ⟨kr,kr⟩,
 ⟨kr,kr⟩,
 ⟨kr,kr⟩,
 ⟨kr,kr⟩,
 ⟨kr,kr,kr⟩,
 ⟨kr,kr,kr⟩,
 ⟨kr,kr,kr⟩,
 ⟨kr,kr,kr⟩,
 ⟨kr,kr⟩,
 ⟨kr,kr⟩,
 ⟨kr,kr⟩,
 ⟨kr,kr⟩,
 ⟨kr,kr⟩,
 ⟨kr,kr⟩,trivial⟩
theorem mixed: Tryz.prog.follows .mixedOrders=true:=kr
instance:Tab Tryz.prog tt:=⟨Ij,mixed⟩
theorem EN: ElT Tryz.prog 31 54 1 4 (.int .u32 0):=⟨Tryz.underlying31,info_parts kr,rfl,by decide⟩
theorem EV: ElT Tryz.prog 46 118 3 32 (.agg #[.int .i64 0,.int .i64 0,.string ⟨#[]⟩]):=⟨Tryz.underlying46,info_parts kr,rfl,by decide⟩
theorem ER: ElT Tryz.prog 37 46 1 24 (.slice none 0 0):=⟨Tryz.underlying37,info_parts kr,rfl,by decide⟩
theorem bsN(x y:Int)(w:World): (Instr.buildSlice 31 2 #[(0,.int .u32 x),(1,.int .u32 y)]).run Tryz.prog w=.ok (.slice (some ⟨w.heap.size,0,none⟩) 2 2) (w.alloc (.cells #[.int .u32 x,.int .u32 y] 54)):=kr
open Go.RowKit Pl Go.Wk
attribute [local irreducible] WC WL QX WD WDB
variable {l:List UInt32}{c k m n:Nat}{A:Option Addr}{a b:UInt32}{u v:Value}{w:World}
def Nc(l:List UInt32): List Value:=l.map λc=>.int .u32 (c.toNat:Int)
theorem Qcj(l:List UInt32): (Nc l).length=l.length:=by simp[Nc]
theorem Vq(h:k<l.length): (Nc l)[k]?=some (.int .u32 ((l.getD k 0).toNat:Int)):=by simp[Nc,List.getD,List.getElem?_eq_getElem h]
theorem Xbp(l:List UInt32)(k:Nat): (Nc l).take k=Nc (l.take k):=by simp[Nc]
theorem Qch(l:List UInt32): ∀ u∈Nc l,u.oneCell'=true:=by
 intro u o;simp[Nc]at o;obtain⟨c,_,rfl⟩:=o;rfl
def NatV(w:World)(v:Value)(n:Nat): Prop:=∃ A c,v=.slice A (Jq n).length c/\(Jq n).length<=c/\(Jq n).length<=4611686018427387904/\Rd w 1 A (Jq n).length (Nc (Jq n))
theorem NatV.ext{w w':World}{v:Value}{n:Nat}(h:NatV w v n)(hx:Ext w w'): NatV w' v n:=by
 obtain⟨A,c,D,C,u,o⟩:=h;exact⟨A,c,D,C,u,o.ext hx⟩
theorem NatV.nil(w:World): NatV w (.slice none 0 0) 0:=⟨none,0,by rw[limbs_0];rfl,by rw[limbs_0];simp,by rw[limbs_0];simp,by rw[limbs_0];exact Rd.nil⟩
theorem Jfd: ∀ l:List UInt32,Xn l=l.take (Xn l).length
 | []=>rfl
 | c::l=>by
  simp only[Xn];split
  .rfl
  rw[List.length_cons,List.take_succ_cons,<-Jfd l]
theorem Jrr(l:List UInt32): (Xn l).length<=l.length:=by grind [List.length,Jfd,List.length_take]
theorem Jyn(hr:Rd w 1 A l.length (Nc l))(hm:l.length<=4611686018427387904): NatV w (.slice A (Jq (val l)).length (Jq (val l)).length) (val l):=by
 have h:=hr.take (m:=(Xn l).length) (Jrr l);rw[Nat.mul_one,Xbp,<-Jfd]at h;have:=Jrr l;rw[<-Iq];exact⟨A,(Xn l).length,by rw[<-Iq],by rw[<-Iq];exact nR _,by rw[<-Iq];omega,by grind [Iq]⟩
theorem Jkb(hr:Rd w 1 A l.length (Nc l))(hc:l.length<=c)(hm:l.length<=4611686018427387904):
  Ret Tryz.prog 54 [.slice A l.length c] w λv w'=>v=.slice A (Jq (val l)).length (Jq (val l)).length/\w'=w:=by
 refine Jz Tryz.func54 Tryz.ntmps54 rfl kr rfl ?_;refine ρ ?_;have D:∀ k,k<=l.length->Xn (l.take k)=Xn l->Xn (l.take k)=l.take k->k=(Jq (val l)).length:=λk C h1 h2=>by grind [Iq,List.length_take]
 refine Qf (λk=>[(0,.slice A l.length c),(3,.int .i64 ((k:Nat):Int))]) (λk w'=>w'=w/\k<=l.length/\Xn (l.take k)=Xn l) (λk=>k) l.length sB ⟨rfl,Nat.le_refl _,by rw[List.take_length]⟩ ?_;rintro k w' ⟨rfl,C,hn⟩;have done:∀ k,k=(Jq (val l)).length->k<=l.length->(Value.slice A k k)=.slice A (Jq (val l)).length (Jq (val l)).length:=λk h _=>by rw[h]
 refine ρ ?_;refine ki 8 (λh=>?_) (λh=>?_)
 .have Z:0<k:=by have:=oT h;omega
  have u:k-1<l.length:=om
  have G:l.take k=l.take (k-1)++[l.getD (k-1) 0]:=by grind [List.take_succ_eq_append_getElem,List.getD,List.getElem?_eq_getElem]
  refine ρ ?_;refine ix (k-1) hr u ?_;refine ρ ?_;refine ld (hr.cell (Vq u)) ?_;refine ρ ?_;refine ci (λh0=>?_) (λh0=>?_)
  .have O:l.getD (k-1) 0=0:=by
    have:=Xa h0;apply UInt32.toNat_inj.1
    grind
   refine ρ ?_;refine Qw (k-1) sO ⟨rfl,om,?_⟩ om;rw[<-hn,G,O,Jrq]
  have O:l.getD (k-1) 0≠0:=by
   have:=Zq h0;intro e;rw[e]at this;exact this rfl
  have o:=D k C hn (by grind [Qfw]);refine ρ ?_;refine Jvz Ij 0 k k A k k rfl rfl rfl rfl rfl ⟨_,_,rfl,rfl⟩ ⟨_,_,rfl,rfl⟩ (.inr (by simp)) (Nat.zero_le _) (nR _) om (cut0 A _ _) rfl rfl rfl ?_;refine ρ ?_;exact Jj ⟨done k o C,rfl⟩
 have J:k=0:=by have:=oF h;omega
 subst J;have o:=D 0 C hn rfl;refine ρ ?_;refine Jvz Ij 0 0 0 A 0 0 rfl rfl rfl rfl rfl ⟨_,_,rfl,rfl⟩ ⟨_,_,rfl,rfl⟩ (.inr (by simp)) (Nat.zero_le _) (nR _) om (cut0 A _ _) rfl rfl rfl ?_;refine ρ ?_;exact Jj ⟨done 0 o C,rfl⟩
theorem Gn(h:NatV w v n): Ret Tryz.prog 54 [v] w λv' w'=>(∃ A,v'=.slice A (Jq n).length (Jq n).length/\Rd w 1 A (Jq n).length (Nc (Jq n)))/\w'=w:=by
 obtain⟨A,c,rfl,C,u,o⟩:=h;refine(Jkb o C u).mono ?_;grind [Yw]
theorem Ku(n:Nat): IntKind.u32.wrap (n:Int)=((UInt32.ofNat n).toNat:Int):=by
 rw[UInt32.toNat_ofNat',IntKind.wrap_u32];omega
theorem u32hi(n:Nat): IntKind.u32.wrap ((n:Int).fdiv (2^min (32:Int).toNat IntKind.u64.bits))=((UInt32.ofNat (n / 4294967296)).toNat:Int):=by
 have e:(2:Int)^min (32:Int).toNat IntKind.u64.bits=((4294967296:Nat):Int):=by decide
 rw[e,Int.fdiv_eq_ediv_of_nonneg _ (Int.natCast_nonneg _),UInt32.toNat_ofNat',IntKind.wrap_u32];omega
theorem Qdz(n:Nat)(h:n<18446744073709551616): val [UInt32.ofNat n,UInt32.ofNat (n / 4294967296)]=n:=by grind [val,UInt32.toNat_ofNat']
def sgn(a b:Int): Int:=if a<b then -1 else if b<a then 1 else 0
theorem Qzs(x:Int)(w:World): Ret Tryz.prog 116 [.int .i64 x] w λv w'=>v=.bool false/\w'=w:=by
 refine Jz Tryz.func116 Tryz.ntmps116 rfl kr rfl ?_;refine ρ ?_;refine Jj ⟨?_,rfl⟩;simp
theorem Qwt(x y:Int)(w:World): Ret Tryz.prog 73 [.int .i64 x,.int .i64 y] w λv w'=>v=.int .i64 (sgn x y)/\w'=w:=by
 refine Jz Tryz.func73 Tryz.ntmps73 rfl kr rfl ?_;refine ρ ?_;refine cl (Qzs x w) ?_;rintro v w' ⟨rfl,rfl⟩;refine ρ ?_;refine cl (Qzs y w') ?_;rintro v o ⟨rfl,rfl⟩;refine ρ ?_;refine ci (λh=>?_) (λh=>?_)
 .refine ρ ?_;refine Jj ⟨?_,rfl⟩;grind [sgn]
 refine ρ ?_;refine ci (λu=>?_) (λu=>?_)
 .refine ρ ?_;refine Jj ⟨?_,rfl⟩;grind [sgn]
 refine ρ ?_;refine Jj ⟨?_,rfl⟩;grind [sgn]
theorem Qzr(x:Int)(w:World): Ret Tryz.prog 117 [.int .u32 x] w λv w'=>v=.bool false/\w'=w:=by
 refine Jz Tryz.func117 Tryz.ntmps117 rfl kr rfl ?_;refine ρ ?_;refine Jj ⟨?_,rfl⟩;simp
theorem Xzr(x y:Int)(w:World): Ret Tryz.prog 74 [.int .u32 x,.int .u32 y] w λv w'=>v=.int .i64 (sgn x y)/\w'=w:=by
 refine Jz Tryz.func74 Tryz.ntmps74 rfl kr rfl ?_;refine ρ ?_;refine cl (Qzr x w) ?_;rintro v w' ⟨rfl,rfl⟩;refine ρ ?_;refine cl (Qzr y w') ?_;rintro v o ⟨rfl,rfl⟩;refine ρ ?_;refine ci (λh=>?_) (λh=>?_)
 .refine ρ ?_;refine Jj ⟨?_,rfl⟩;grind [sgn]
 refine ρ ?_;refine ci (λu=>?_) (λu=>?_)
 .refine ρ ?_;refine Jj ⟨?_,rfl⟩;grind [sgn]
 refine ρ ?_;refine Jj ⟨?_,rfl⟩;grind [sgn]
theorem Qzt(x:Int)(w:World): Ret Tryz.prog 198 [.int .i64 x] w λv w'=>v=.bool false/\w'=w:=by
 refine Jz Tryz.func198 Tryz.ntmps198 rfl kr rfl ?_;refine ρ ?_;refine Jj ⟨?_,rfl⟩;simp
theorem Xzs(x y:Int)(w:World): Ret Tryz.prog 178 [.int .i64 x,.int .i64 y] w λv w'=>v=.int .i64 (sgn x y)/\w'=w:=by
 refine Jz Tryz.func178 Tryz.ntmps178 rfl kr rfl ?_;refine ρ ?_;refine cl (Qzt x w) ?_;rintro v w' ⟨rfl,rfl⟩;refine ρ ?_;refine cl (Qzt y w') ?_;rintro v o ⟨rfl,rfl⟩;refine ρ ?_;refine ci (λh=>?_) (λh=>?_)
 .refine ρ ?_;refine Jj ⟨?_,rfl⟩;grind [sgn]
 refine ρ ?_;refine ci (λu=>?_) (λu=>?_)
 .refine ρ ?_;refine Jj ⟨?_,rfl⟩;grind [sgn]
 refine ρ ?_;refine Jj ⟨?_,rfl⟩;grind [sgn]
theorem Jtc(n m:Nat): sgn (n:Int) (m:Int)=Yq n m:=by grind [sgn,Yq]
theorem Qfr(h:((a.toNat:Int) != (b.toNat:Int))=false): a=b:=by grind [UInt32.toNat_inj.1]
theorem Qfq(h:((a.toNat:Int) != (b.toNat:Int))=true): a.toNat≠b.toNat:=by grind
theorem Jkz(hv:NatV w v n)(hu:NatV w u m): Ret Tryz.prog 30 [v,u] w λr w'=>r=.int .i64 (Yq n m)/\Ext w w':=by
 have a3:=hv;have a4:=hu;obtain⟨_,_,_,_,a9,_⟩:=a3;obtain⟨_,_,_,_,aa,_⟩:=a4;refine Jz Tryz.func30 Tryz.ntmps30 rfl kr rfl ?_;refine ρ ?_;refine cl (Gn hv) ?_;rintro v' w' ⟨⟨A,rfl,ha⟩,rfl⟩;refine ρ ?_;refine cl (Gn hu) ?_;rintro u' a2 ⟨⟨B,rfl,hb⟩,rfl⟩;refine ρ ?_;refine ci (λh=>?_) (λh=>?_)
 .refine ρ ?_;refine cl (Qwt _ _ _) ?_;rintro t w1 ⟨rfl,rfl⟩;refine ρ ?_;refine Jj ⟨?_,Ext.refl _⟩;grind [Jtc,Jq,Yq,Nat.lt_or_gt_of_ne,Qxk]
 have a7:(Jq n).length=(Jq m).length:=by grind
 refine ρ ?_;refine Qf (λk=>[(0,.slice A (Jq n).length (Jq n).length),(1,.slice B (Jq m).length (Jq m).length),(5,.int .i64 ((k:Nat)-1:Int))]) (λk w'=>Ext a2 w'/\k<=(Jq n).length/\(Jq n).drop k=(Jq m).drop k) (λk=>k) (Jq n).length sB
  ⟨Ext.refl _,Nat.le_refl _,by grind⟩ ?_
 rintro k w1 ⟨hx,hk,hd⟩;refine ρ ?_;refine ci (λh=>?_) (λh=>?_)
 .have a6:0<k:=by have:=oT h;omega
  have G:k-1<(Jq n).length:=om
  have D:k-1<(Jq m).length:=om
  have C:=hx.trans ((Ext.refl w1).drew);have a1:=ha.ext C;have O:=hb.ext C;refine ρ ?_;refine dr [(0,0),(0,1),(0,2),(0,3),(0,4),(0,5),(0,6),(0,7),(0,8)] kr ?_;refine ρd ?_;refine dix (k-1) a1 G ?_;refine ρd ?_;refine dld (a1.cell (Vq G)) ?_;refine ρd ?_;refine dix (k-1) O D ?_;refine ρd ?_;refine dld (O.cell (Vq D)) ?_;refine ρd ?_;refine ρ ?_;refine ci (λh=>?_) (λh=>?_)
  .have a8:=Qfq h;have o:=C.trans ((Ext.refl w1.drew).drew);have Z:=ha.ext o;have J:=hb.ext o;refine ρ ?_;refine dr [(0,0),(0,1),(0,2),(0,3),(0,4),(0,5),(0,6),(0,7),(1,8),(0,9)] kr ?_;refine ρd ?_;refine dix (k-1) Z G ?_;refine ρd ?_;refine dld (Z.cell (Vq G)) ?_;refine ρd ?_;refine dix (k-1) J D ?_;refine ρd ?_;refine dld (J.cell (Vq D)) ?_;refine ρd ?_;refine dcl (Xzr _ _ _) ?_;rintro t w2 ⟨rfl,rfl⟩;refine⟨Ext.refl _,?_⟩;refine ρd ?_;refine ρ ?_;refine Jj ⟨?_,o⟩;grind [Jtc,Yq,Jq,Nat.lt_or_gt_of_ne,Qfb,Yw]
  have he:=Qfr h;refine ρ ?_;refine Qw (k-1) sO ⟨C,om,?_⟩ om;grind [List.drop_eq_getElem_cons,Jq,List.getD,List.getElem?_eq_getElem]
 have a5:k=0:=by have:=oF h;omega
 subst a5;have:n=m:=by grind [Yw,val]
 subst this;refine ρ ?_;refine Jj ⟨?_,hx⟩;simp[Yq]
end Go.Proofs.YtbcdghbonlifdaaGreatDoor
namespace Go.Wk
open Go.RowKit
variable {c e m t t2:Nat}
section
variable {P:Program} {n:Nat} {al:AL} {w:World} {Q:Exit->Act->World->Prop} {ops:Array Oper} {rest:List Oper}
variable {d ty:Nat} {op:Op} {pos:String} {aft:Array Edge} {tt:TT}
theorem Kw[h:Tab P tt]{x:Operand}{k:TK}{A:Option Addr}(kk:WL P n ops Q rest ((d,.bool A.isNone)::al) w)(ht:tk tt t=some k:=by rfl)(hk:k.desc=.slice e:=by rfl)(hx:ev al x=some (.slice A m c):=by rfl)(hd:Nat.blt d n=true:=by rfl): WL P n ops Q (⟨some d,.binOp .eql t x (.const (.slice none 0 0)) t2,ty,pos,aft,none⟩::rest) al w :=
 wop hd (λa u=>by
  have o:=(Kx h.ok ht hk rfl).1;have C:a.eval (.const (.slice none 0 0))=.slice none 0 0:=rfl;simp[execOp,u.ev hx,C,eqGuard,binOp,run_equal_slice_nil w t e A m c o]) kk
end
end Go.Wk
namespace Go.Proofs.YtbcdghbonlifdaaGreatDoor
open Go.RowKit Pl Go.Wk
attribute [local irreducible] WC WL QX WD WDB
variable {cs:List Value}{c n:Nat}{A:Option Addr}{w:World}
theorem EB: ElT Tryz.prog 28 4 1 1 (.bool false):=⟨Tryz.underlying28,info_parts kr,rfl,by decide⟩
theorem EI: ElT Tryz.prog 39 3 1 8 (.int .i64 0):=⟨Tryz.underlying39,info_parts kr,rfl,by decide⟩
theorem Qyp(w:World): (Instr.buildSlice 28 0 #[]).run Tryz.prog w=.ok (.slice (some ⟨w.heap.size,0,none⟩) 0 0) (w.alloc (.cells ([]:List Value).toArray 4)):=kr
theorem Xkz(hr:Rd w 1 A n cs)(h1:∀ u∈cs,u.oneCell'=true)(hb:n*1<=140737488355328):
  Ret Tryz.prog 60 [.slice A n c] w λv w'=>(∃ A' c',v=.slice A' n c'/\n<=c'/\Rd w' 1 A' n cs)/\Ext w w':=by
 refine Jz Tryz.func60 Tryz.ntmps60 rfl kr rfl ?_;refine ρ ?_;refine Kw ?_;refine ρ ?_;refine ci (λh=>?_) (λh=>?_)
 .have Z:A=none:=by simpa using h
  subst Z;have hn:n=0:=by
   rcases Nat.eq_zero_or_pos n with h0|h0
   .exact h0
   obtain⟨ad,h2,_⟩:=hr.isome h0 om;cases h2
  subst hn;refine ρ ?_;exact Jj ⟨⟨none,0,rfl,Nat.le_refl _,hr⟩,Ext.refl w⟩
 refine ρ ?_;refine bsl Qyp ?_;intro w1 b C O J;refine ρ ?_;refine apo C EB (J.own (n:=0) O rfl (Nat.zero_le _)) (hr.ext C) h1 (by unfold maxLen;omega) om ?_;intro v2 w2 o G _ _;obtain⟨A2,c2,rfl,D,_⟩:=Jy o;refine ρ ?_;rw[Nat.zero_add]at o D ⊢;exact Jj ⟨⟨A2,c2,rfl,D,Rd.own o⟩,G⟩
theorem Jms(hr:Rd w 1 A n cs)(h1:∀ u∈cs,u.oneCell'=true)(hb:n*1<=140737488355328):
  Ret Tryz.prog 60 [.slice A n c] w λv w'=>(∃ A' c',v=.slice A' n c'/\n<=c'/\Rd w' 1 A' n cs/\∀ ad,A'=some ad->w.heap.size<=ad.block)/\Ext w w':=by
 refine Jz Tryz.func60 Tryz.ntmps60 rfl kr rfl ?_;refine ρ ?_;refine Kw ?_;refine ρ ?_;refine ci (λh=>?_) (λh=>?_)
 .have hA:A=none:=by simpa using h
  subst hA;have hn:n=0:=by
   rcases Nat.eq_zero_or_pos n with h0|h0
   .exact h0
   obtain⟨ad,h2,_⟩:=hr.isome h0 om;cases h2
  subst hn;refine ρ ?_;exact Jj ⟨⟨none,0,rfl,Nat.le_refl _,hr,λad e=>by cases e⟩,Ext.refl w⟩
 refine ρ ?_;refine bsl Qyp ?_;intro w1 b C O J;refine ρ ?_;refine apo C EB (J.own (n:=0) O rfl (Nat.zero_le _)) (hr.ext C) h1 (by unfold maxLen;omega) om ?_;intro v2 w2 o G _ _;obtain⟨A2,c2,rfl,D,Z⟩:=Jy o;refine ρ ?_;rw[Nat.zero_add]at o D ⊢;exact Jj ⟨⟨A2,c2,rfl,D,Rd.own o,λad e=>by subst e;exact(Z ad.block rfl).1⟩,G⟩
theorem Kt(w:World): (Instr.buildSlice 46 0 #[]).run Tryz.prog w=.ok (.slice (some ⟨w.heap.size,0,none⟩) 0 0) (w.alloc (.cells ([]:List Value).toArray 118)):=kr
theorem Qym(w:World): (Instr.buildSlice 31 0 #[]).run Tryz.prog w=.ok (.slice (some ⟨w.heap.size,0,none⟩) 0 0) (w.alloc (.cells ([]:List Value).toArray 54)):=kr
theorem Xkw(hr:Rd w 1 A n cs)(h1:∀ u∈cs,u.oneCell'=true)(hb:n*4<=140737488355328):
  Ret Tryz.prog 52 [.slice A n c] w λv w'=>(∃ A' c',v=.slice A' n c'/\n<=c'/\Rd w' 1 A' n cs)/\Ext w w':=by
 refine Jz Tryz.func52 Tryz.ntmps52 rfl kr rfl ?_;refine ρ ?_;refine Kw ?_;refine ρ ?_;refine ci (λh=>?_) (λh=>?_)
 .have Z:A=none:=by simpa using h
  subst Z;have hn:n=0:=by
   rcases Nat.eq_zero_or_pos n with h0|h0
   .exact h0
   obtain⟨ad,h2,_⟩:=hr.isome h0 om;cases h2
  subst hn;refine ρ ?_;exact Jj ⟨⟨none,0,rfl,Nat.le_refl _,hr⟩,Ext.refl w⟩
 refine ρ ?_;refine bsl Qym ?_;intro w1 b C O J;refine ρ ?_;refine apo C EN (J.own (n:=0) O rfl (Nat.zero_le _)) (hr.ext C) h1 (by unfold maxLen;omega) om ?_;intro v2 w2 o G _ _;obtain⟨A2,c2,rfl,D,_⟩:=Jy o;refine ρ ?_;rw[Nat.zero_add]at o D ⊢;exact Jj ⟨⟨A2,c2,rfl,D,Rd.own o⟩,G⟩
open Go.RowKit Pl Go.Wk
variable {a n:Nat}
theorem Qht(h:n<18446744073709551616): (Jq n).length<=2:=by grind [Nat.lt_or_ge,Jq,limbs_0,Jht,Nat.pow_le_pow_right]
theorem Qpx(k:Nat)(hk:k<2)(h:a<4294967296^k)(c:UInt32): bits .or .u64 (a:Int) (IntKind.u64.wrap (IntKind.u64.wrap (c.toNat:Int)*2^min (32*(k:Int)).toNat IntKind.u64.bits))=((a+4294967296^k*c.toNat:Nat):Int):=by
 have J:c.toNat<4294967296:=c.toNat_lt;have u:IntKind.u64.wrap (c.toNat:Int)=(c.toNat:Int):=by rw[IntKind.wrap_u64];omega
 rw[u];match k,hk with
 | 0,_=>
  have C:a=0:=by simpa using h
  subst C;have o:(2:Int)^min (32*((0:Nat):Int)).toNat IntKind.u64.bits=1:=by decide
  rw[o,Int.mul_one,u];have:=u64_or_nat 0 c.toNat om om;grind
 | 1,_=>
  have o:(2:Int)^min (32*((1:Nat):Int)).toNat IntKind.u64.bits=4294967296:=by decide
  have G:IntKind.u64.wrap ((c.toNat:Int)*4294967296)=((c.toNat*4294967296:Nat):Int):=by rw[IntKind.wrap_u64];omega
  have D:a<4294967296:=by simpa using h
  rw[o,G,u64_or_nat _ _ om om];have:=nat_join 32 (c.toNat*4294967296) a (by simp) D;grind
theorem Qsf{v:Value}{w:World}(hv:NatV w v n)(h:n<18446744073709551616): Ret Tryz.prog 33 [v] w λr w'=>r=.tuple #[.int .u64 (n:Int),.bool true]/\w'=w:=by
 have hl:=Qht h;refine Jz Tryz.func33 Tryz.ntmps33 rfl kr rfl ?_;refine ρ ?_;refine cl (Gn hv) ?_;rintro Z w' ⟨⟨A,rfl,J⟩,rfl⟩;refine ρ ?_;refine Jpz rfl (dF om) ?_;refine ρ ?_;refine Qf (λk=>[(4,.int .u64 ((val ((Jq n).take k):Nat):Int)),(0,.slice A (Jq n).length (Jq n).length),(12,.int .i64 ((Jq n).length:Int)),(13,.int .i64 ((k:Nat):Int))]) (λk G=>G=w'/\k<=(Jq n).length) (λk=>(Jq n).length-k) 0 sB ⟨rfl,Nat.zero_le _⟩ ?_;rintro k G ⟨rfl,hk⟩;refine ρ ?_;refine ci (λh=>?_) (λh=>?_)
 .have o:k<(Jq n).length:=by have:=oT h;omega
  refine ρ ?_;refine ix k J o ?_;refine ρ ?_;refine ld (J.cell (Vq o)) ?_;refine ρ ?_;refine Jzw rfl rfl om rfl ?_;refine ρ ?_;have u:=Jyk ((Jq n).take k);have C:((Jq n).take k).length=k:=by rw[List.length_take];omega
  rw[C]at u;have O:(Jq n).take (k+1)=(Jq n).take k++[(Jq n).getD k 0]:=by grind [List.take_succ_eq_append_getElem,List.getD,List.getElem?_eq_getElem]
  refine Qw (k+1) (Sub.cons (congrArg (λz=>some (Value.int .u64 z)) ?_) sB) ⟨rfl,om⟩ om;grind [Qpx,Ko,val]
 have D:k=(Jq n).length:=by have:=oF h;omega
 subst D;refine ρ ?_;refine Vo ⟨?_,rfl⟩;rw[List.take_length,Yw]
open Go.RowKit Pl Go.Wk
variable {a b os:List UInt32}{c i m n s x y:Nat}{u v:Value}{w:World}
theorem Ul(z:Value)(n:Nat): (madeCells #[z] n).toList=List.replicate n z:=by
 unfold madeCells;apply List.ext_getElem
 repeat grind
theorem Jnr(n:Nat): List.replicate n (Value.int .u32 0)=Nc (List.replicate n 0):=by simp[Nc]
theorem Jvt(l:List UInt32)(i:Nat)(c:UInt32): (Nc l).set i (.int .u32 (c.toNat:Int))=Nc (l.set i c):=by simp[Nc,List.map_set]
theorem Xbg(hx:x<4294967296)(hc:c<=1): IntKind.u64.wrap ((c:Int)+IntKind.u64.wrap (x:Int))=((c+x:Nat):Int):=by
 simp only[IntKind.wrap_u64];omega
theorem Jfp(n:Nat): (n:Int).fdiv (2^min (32:Int).toNat IntKind.u64.bits)=((n / 4294967296:Nat):Int):=by
 have e:(2:Int)^min (32:Int).toNat IntKind.u64.bits=((4294967296:Nat):Int):=by decide
 grind
def AddInv(a b:List UInt32)(i c:Nat)(os:List UInt32): Prop:=os.length=i/\c<=1/\val os+4294967296^i*c=val (a.take i)+val (b.take i)
theorem Jzx: val (a.take (i+1))=val (a.take i)+4294967296^i*(a.getD i 0).toNat:=by
 rcases Nat.lt_or_ge i a.length with h|h
 .grind [List.take_succ_eq_append_getElem,List.getD,List.getElem?_eq_getElem,Ko,List.length_take,Nat.min_eq_left,val]
 rw[List.take_of_length_le om,List.take_of_length_le h];have:a.getD i 0=0:=by grind
 rw[this];simp
theorem AddInv.step(h:AddInv a b i c os)(hs:s=c+(a.getD i 0).toNat+(b.getD i 0).toNat): AddInv a b (i+1) (s / 4294967296) (os++[UInt32.ofNat s]):=by
 obtain⟨o,G,D⟩:=h;have C:(a.getD i 0).toNat<4294967296:=(a.getD i 0).toNat_lt;have u:(b.getD i 0).toNat<4294967296:=(b.getD i 0).toNat_lt;refine⟨by simp[o],om,?_⟩;rw[Ko,o,Jzx,Jzx];simp only[val,UInt32.toNat_ofNat'];have e:4294967296^(i+1)*(s / 4294967296)=4294967296^i*(4294967296*(s / 4294967296)):=by grind
 rw[e];have J:4294967296^i*(s % 2^32+4294967296*0)+4294967296^i*(4294967296*(s / 4294967296))=4294967296^i*s:=by
  rw[<-Nat.mul_add];congr 1;omega
 grind
theorem Jfr(os:List UInt32)(r:Nat)(c:UInt32): (os++List.replicate (r+1) 0).set os.length c=(os++[c])++List.replicate r 0:=by grind
theorem Xbf(hs:s<9223372036854775808)(hy:y<4294967296): IntKind.u64.wrap ((s:Int)+IntKind.u64.wrap (y:Int))=((s+y:Nat):Int):=by
 simp only[IntKind.wrap_u64];omega
abbrev Vy(w:World)(base:Nat)(v:Value)(l:List UInt32): Prop:=w.ownsRow base 54 1 v l.length (Nc l)
def Fresh(w:World)(v:Value): Prop:=∀ ad n c,v=.slice (some ad) n c->w.heap.size<=ad.block
theorem NatV.grown{w w':World}{v:Value}{n:Nat}{g:Option Nat}(h:NatV w v n)(hg:w.grownBy w' g)(hf:∀ ad m c,v=.slice (some ad) m c->some ad.block≠g): NatV w' v n:=by
 obtain⟨A,c,rfl,C,u,o⟩:=h;exact⟨A,c,rfl,C,u,Rd.grown o hg (λad e=>Ne.symm (hf ad _ _ (by rw[e])))⟩
theorem Jjt(hv:NatV w v n)(hu:NatV w u m)(hln:(Jq n).length<=1000)(hlm:(Jq m).length<=1000): Ret Tryz.prog 31 [v,u] w λr w'=>NatV w' r (n+m)/\Fresh w r/\Ext w w':=by
 refine Jz Tryz.func31 Tryz.ntmps31 rfl kr rfl ?_;refine ρ ?_;refine cl (Gn hv) ?_;rintro v' w' ⟨⟨A,rfl,ha⟩,rfl⟩;refine ρ ?_;refine cl (Gn hu) ?_;rintro u' a3 ⟨⟨B,rfl,hb⟩,rfl⟩;refine ρ ?_;refine Zw (λs:(Option Addr×Nat)×(Option Addr×Nat)=>[(0,.slice s.1.1 (Jq s.1.2).length (Jq s.1.2).length),(1,.slice s.2.1 (Jq s.2.2).length (Jq s.2.2).length)])
  (λs w'=>w'=a3/\(Jq s.2.2).length<=(Jq s.1.2).length/\s.1.2+s.2.2=n+m/\Rd a3 1 s.1.1 (Jq s.1.2).length (Nc (Jq s.1.2))/\Rd a3 1 s.2.1 (Jq s.2.2).length (Nc (Jq s.2.2))/\(Jq s.1.2).length<=1000) ?_ ?_
 .refine ci (λh=>?_) (λh=>?_)
  .refine ρ ?_;exact Jb ((B,m),(A,n)) sB ⟨rfl,by grind,Nat.add_comm _ _,hb,ha,hlm⟩
  refine ρ ?_;exact Jb ((A,n),(B,m)) sB ⟨rfl,by grind,rfl,ha,hb,hln⟩
 rintro⟨⟨A,x⟩,⟨B,y⟩⟩ w' ⟨rfl,aj,a1,ha,hb,hl⟩;simp only at aj a1 ha hb hl;generalize hL:(Jq x).length=L at *
 refine ρ ?_;refine mkn EN (L+1) om (by unfold maxLen;omega) ?_;intro w1 O ae ao hO;have a8:Vy w1 w'.heap.size (.slice O (L+1) (L+1)) ([]++List.replicate (L+1) 0):=by
  have e:(madeCells (Value.int .u32 0).cells ((L+1)*1)).toList=Nc (List.replicate (L+1) 0):=by rw[Nat.mul_one,<-Jnr];exact Ul _ _
  grind
 refine ρ ?_;refine Xm (fun (k c:Nat) (C:List UInt32)=>[(0,.slice A L L),(1,.slice B (Jq y).length (Jq y).length),(5,.slice O (L+1) (L+1)),(6,.int .u64 (c:Int)),(24,.int .i64 (L:Int)),(25,.int .i64 (k:Int))])
  (λk c C w2=>Ext w' w2/\k<=L/\AddInv (Jq x) (Jq y) k c C/\Vy w2 w'.heap.size (.slice O (L+1) (L+1)) (C++List.replicate (L+1-k) 0)) (λk _ _=>L-k) 0 0 [] sB
  ⟨ae,Nat.zero_le _,⟨rfl,om,rfl⟩,a8⟩ ?_
 rintro k c C w2 ⟨Z,hk,hI,a5⟩;have af:=hI.1;have an:=hI.2.1;have aa:=ha.ext Z;have a9:=hb.ext Z;refine ρ ?_;refine ci (λh=>?_) (λh=>?_)
 .have ai:k<L:=by have:=oT h;omega
  have ah:((Jq x).getD k 0).toNat<4294967296:=((Jq x).getD k 0).toNat_lt;have ag:((Jq y).getD k 0).toNat<4294967296:=((Jq y).getD k 0).toNat_lt;have o:(C++List.replicate (L+1-k) (0:UInt32)).length=L+1:=by simp;omega
  have store:∀ s:Nat,w2.cell? (adr O k)=(Nc (C++List.replicate (L+1-k) 0))[k]?/\w2.frozen? (adr O k)=false /\
    Vy (w2.setCell (adr O k) (.int .u32 ((UInt32.ofNat s).toNat:Int))) w'.heap.size (.slice O (L+1) (L+1)) ((C++[UInt32.ofNat s])++List.replicate (L+1-(k+1)) 0)/\Ext w' (w2.setCell (adr O k) (.int .u32 ((UInt32.ofNat s).toNat:Int))):=λs=>by
   have G:=a5;rw[Vy,o]at G;obtain⟨s1,s2,J,s4,s5⟩:=Za G (q:=k) om (.int .u32 ((UInt32.ofNat s).toNat:Int));refine⟨s1,s2,?_,Z.setCell s4 _⟩;rw[Jvt,show L+1-k=(L-k)+1 by omega]at J;have e:=Jfr C (L-k) (UInt32.ofNat s);grind
  have D:(Nc (C++List.replicate (L+1-k) 0))[k]?=some (.int .u32 (((C++List.replicate (L+1-k) 0).getD k 0).toNat:Int)):=Vq (by rw[o];omega);have a6:Rd w2 1 O (L+1) (Nc (C++List.replicate (L+1-k) 0)):=by have h5:=a5;rw[Vy,o]at h5;exact Rd.own h5
  refine ρ ?_;refine ix k aa ai ?_;refine ρ ?_;refine ld (aa.cell (Vq (show k<(Jq x).length by omega))) ?_;refine ρ ?_;rw[Xbg ah an];refine ci (λh=>?_) (λh=>?_)
  .have a2:k<(Jq y).length:=by have:=oT h;omega
   refine ρ ?_;refine ix k a9 a2 ?_;refine ρ ?_;refine ld (a9.cell (Vq a2)) ?_;refine ρ ?_;refine ix k a6 om ?_;obtain⟨s1,s2,J,s4⟩:=store (c+((Jq x).getD k 0).toNat+((Jq y).getD k 0).toNat);rw[Xbf om ag,Ku];refine sto (s1.trans D) s2 ?_;refine ρ ?_;refine Ye rfl rfl (by decide) rfl ?_;refine ρ ?_;refine Qp (k+1) ((c+((Jq x).getD k 0).toNat+((Jq y).getD k 0).toNat) / 4294967296) (C++[UInt32.ofNat (c+((Jq x).getD k 0).toNat+((Jq y).getD k 0).toNat)]) ?_ ⟨s4,om,hI.step rfl,J⟩ om;rw[Jfp];exact sB
  have ap:(Jq y).length<=k:=by have:=oF h;omega
  have ab:(Jq y).getD k 0=0:=by grind
  refine ρ ?_;refine ix k a6 om ?_;obtain⟨s1,s2,J,s4⟩:=store (c+((Jq x).getD k 0).toNat);rw[Ku];refine sto (s1.trans D) s2 ?_;refine ρ ?_;refine Ye rfl rfl (by decide) rfl ?_;refine ρ ?_;refine Qp (k+1) ((c+((Jq x).getD k 0).toNat) / 4294967296) (C++[UInt32.ofNat (c+((Jq x).getD k 0).toNat)]) ?_ ⟨s4,om,hI.step (by rw[ab];rfl),J⟩ om;rw[Jfp];exact sB
 have am:k=L:=by have:=oF h;omega
 subst am;have o:(C++List.replicate (k+1-k) (0:UInt32)).length=k+1:=by simp;omega
 have G:=a5;rw[Vy,o]at G;have D:(Nc (C++List.replicate (k+1-k) 0))[k]?=some (.int .u32 (((C++List.replicate (k+1-k) 0).getD k 0).toNat:Int)):=Vq (by rw[o];omega);obtain⟨s1,s2,J,s4,s5⟩:=Za G (q:=k) om (.int .u32 ((UInt32.ofNat c).toNat:Int));rw[Jvt,show k+1-k=0+1 by omega]at J;have e:=Jfr C 0 (UInt32.ofNat c);rw[af,List.replicate_zero,List.append_nil]at e;rw[e]at J;have ac:=Z.setCell s4 (.int .u32 ((UInt32.ofNat c).toNat:Int));refine ρ ?_;refine ix k (Rd.own G) om ?_;rw[Ku];refine sto (s1.trans D) s2 ?_;refine ρ ?_;have ak:(C++[UInt32.ofNat c]).length=k+1:=by simp;omega
 have a4:=Rd.own J;have a7:val (C++[UInt32.ofNat c])=n+m:=by
  obtain⟨i1,i2,i3⟩:=hI;rw[Ko,i1];simp only[val,UInt32.toNat_ofNat'];rw[<-a1,<-Yw x,<-Yw y,<-List.take_of_length_le (show(Jq x).length<=k by omega),<-List.take_of_length_le (show(Jq y).length<=k by omega),<-i3,show c % 2^32+4294967296*0=c by omega]
 rw[<-ak]at a4 ⊢;refine cl (Jkb a4 (nR _) om) ?_;rintro t w4 ⟨rfl,rfl⟩;have:=Jyn a4 om;rw[a7]at this ⊢;refine ρ ?_;exact Jj ⟨this,λad _ _ e=>hO ad (by injection e),ac⟩
theorem Jhm(hv:NatV w v n)(hu:NatV w u m)(hln:(Jq n).length<=1000)(hlm:(Jq m).length<=1000): Ret Tryz.prog 31 [v,u] w λr w'=>NatV w' r (n+m)/\Ext w w' :=
 (Jjt hv hu hln hlm).mono λ_ _ h=>⟨h.1,h.2.2⟩
open Go.RowKit Pl Go.Wk
variable {a b os:List UInt32}{c i m n s x y:Nat}
def dif(x c y:Nat): Nat:=(18446744073709551616+x-c-y) % 18446744073709551616
theorem Qhf(hx:x<4294967296)(hc:c<=1): IntKind.u64.wrap (IntKind.u64.wrap (x:Int)-(c:Int))=(dif x c 0:Int):=by
 unfold dif;simp only[IntKind.wrap_u64];omega
theorem Qhd(hx:x<4294967296)(hc:c<=1)(hy:y<4294967296): IntKind.u64.wrap ((dif x c 0:Int)-IntKind.u64.wrap (y:Int))=(dif x c y:Int):=by
 unfold dif;simp only[IntKind.wrap_u64];omega
theorem Jsz(n:Nat): (n:Int).fdiv (2^min (63:Int).toNat IntKind.u64.bits)=((n / 9223372036854775808:Nat):Int):=by
 have e:(2:Int)^min (63:Int).toNat IntKind.u64.bits=((9223372036854775808:Nat):Int):=by decide
 grind
theorem Xzj(hx:x<4294967296)(hc:c<=1)(hy:y<4294967296): dif x c y % 4294967296+y+c=x+4294967296*(dif x c y / 9223372036854775808)/\dif x c y / 9223372036854775808<=1:=by
 unfold dif;omega
def SubInv(a b:List UInt32)(i c:Nat)(os:List UInt32): Prop:=os.length=i/\c<=1/\val os+val (b.take i)=val (a.take i)+4294967296^i*c
theorem SubInv.step(h:SubInv a b i c os)(hs:s=dif (a.getD i 0).toNat c (b.getD i 0).toNat):
  SubInv a b (i+1) (s / 9223372036854775808) (os++[UInt32.ofNat s]):=by
 obtain⟨J,G,O⟩:=h;have D:(a.getD i 0).toNat<4294967296:=(a.getD i 0).toNat_lt;have C:(b.getD i 0).toNat<4294967296:=(b.getD i 0).toNat_lt;obtain⟨u,o⟩:=Xzj D G C;rw[<-hs]at u o;refine⟨by simp[J],o,?_⟩;grind [Ko,Jzx,val,UInt32.toNat_ofNat',Nat.pow_succ,Nat.mul_assoc,Nat.mul_add]
theorem Qsh{v u:Value}{w:World}(hv:NatV w v n)(hu:NatV w u m)(hln:(Jq n).length<=1000):
  Ret Tryz.prog 95 [v,u] w λr w'=>(∃ x,r=.tuple #[x,.int .i64 (if n<m then 19 else 0)]/\NatV w' x (n-m)/\Fresh w x)/\Ext w w':=by
 refine Jz Tryz.func95 Tryz.ntmps95 rfl kr rfl ?_;refine ρ ?_;refine cl (Gn hv) ?_;rintro v' w' ⟨⟨A,rfl,ha⟩,rfl⟩;refine ρ ?_;refine cl (Gn hu) ?_;rintro u' aq ⟨⟨B,rfl,hb⟩,rfl⟩;have aj:(Jq m).length<=4611686018427387904:=by obtain⟨_,_,_,_,h,_⟩:=hu;exact h
 refine ρ ?_;refine cl (Jkz (n:=n) (m:=m) ⟨A,_,rfl,Nat.le_refl _,om,ha⟩ ⟨B,_,rfl,Nat.le_refl _,aj,hb⟩) ?_;rintro t w' ⟨rfl,C⟩;refine ρ ?_;refine ci (λh=>?_) (λh=>?_)
 .have a2:n<m:=by
   have:=oT h;unfold Yq at this;grind
  refine ρ ?_;refine Vo ⟨⟨.slice none 0 0,?_,?_,λad _ _ e=>by cases e⟩,C⟩
  .rw[if_pos a2]
  rw[show n-m=0 by omega];exact NatV.nil _
 have am:m<=n:=by grind [Yq,Nat.lt_or_ge]
 have au:(Jq m).length<=(Jq n).length:=by
  rcases Nat.lt_or_ge (Jq n).length (Jq m).length with h1|h1
  .have:=Qxk h1;omega
  exact h1
 have ao:=ha.ext C;have an:=hb.ext C;generalize hL:(Jq n).length=L at *
 refine ρ ?_;refine mkn EN L om (by unfold maxLen;omega) ?_;intro w1 O a4 ar hO;have ap:=C.trans a4;have ah:=C.size;have aa:Vy w1 w'.heap.size (.slice O L L) ([]++List.replicate L 0):=by
  have e:(madeCells (Value.int .u32 0).cells (L*1)).toList=Nc (List.replicate L 0):=by rw[Nat.mul_one,<-Jnr];exact Ul _ _
  grind
 refine ρ ?_;refine Xm (fun (k c:Nat) (o:List UInt32)=>[(0,.slice A L L),(1,.slice B (Jq m).length (Jq m).length),(6,.slice O L L),(7,.int .u64 (c:Int)),(22,.int .i64 (L:Int)),(23,.int .i64 (k:Int))])
  (λk c o J=>Ext w' J/\k<=L/\SubInv (Jq n) (Jq m) k c o/\Vy J w'.heap.size (.slice O L L) (o++List.replicate (L-k) 0)) (λk _ _=>L-k) 0 0 [] sB
  ⟨a4,Nat.zero_le _,⟨rfl,om,rfl⟩,aa⟩ ?_
 rintro k c o J ⟨Z,hk,hI,a9⟩;have a7:=hI.1;have ac:=hI.2.1;have af:=ao.ext Z;have ae:=an.ext Z;refine ρ ?_;refine ci (λh=>?_) (λh=>?_)
 .have a2:k<L:=by have:=oT h;omega
  have ab:((Jq n).getD k 0).toNat<4294967296:=((Jq n).getD k 0).toNat_lt;have ai:((Jq m).getD k 0).toNat<4294967296:=((Jq m).getD k 0).toNat_lt;have D:(o++List.replicate (L-k) (0:UInt32)).length=L:=by simp;omega
  have store:∀ s:Nat,J.cell? (adr O k)=(Nc (o++List.replicate (L-k) 0))[k]?/\J.frozen? (adr O k)=false /\
    Vy (J.setCell (adr O k) (.int .u32 ((UInt32.ofNat s).toNat:Int))) w'.heap.size (.slice O L L) ((o++[UInt32.ofNat s])++List.replicate (L-(k+1)) 0)/\Ext w' (J.setCell (adr O k) (.int .u32 ((UInt32.ofNat s).toNat:Int))):=λs=>by
   have a8:=a9;rw[Vy,D]at a8;obtain⟨s1,s2,s3,s4,s5⟩:=Za a8 (q:=k) om (.int .u32 ((UInt32.ofNat s).toNat:Int));refine⟨s1,s2,?_,Z.setCell s4 _⟩;rw[Jvt,show L-k=(L-(k+1))+1 by omega]at s3;have e:=Jfr o (L-(k+1)) (UInt32.ofNat s);grind
  have G:(Nc (o++List.replicate (L-k) 0))[k]?=some (.int .u32 (((o++List.replicate (L-k) 0).getD k 0).toNat:Int)):=Vq (by rw[D];omega);have a3:Rd J 1 O L (Nc (o++List.replicate (L-k) 0)):=by have h5:=a9;rw[Vy,D]at h5;exact Rd.own h5
  refine ρ ?_;refine ix k af a2 ?_;refine ρ ?_;refine ld (af.cell (Vq (show k<(Jq n).length by omega))) ?_;refine ρ ?_;rw[Qhf ab ac];refine ci (λh=>?_) (λh=>?_)
  .have a1:k<(Jq m).length:=by have:=oT h;omega
   refine ρ ?_;refine ix k ae a1 ?_;refine ρ ?_;refine ld (ae.cell (Vq a1)) ?_;refine ρ ?_;refine ix k a3 om ?_;obtain⟨s1,s2,s3,s4⟩:=store (dif ((Jq n).getD k 0).toNat c ((Jq m).getD k 0).toNat);rw[Qhd ab ac ai,Ku];refine sto (s1.trans G) s2 ?_;refine ρ ?_;refine Ye rfl rfl (by decide) rfl ?_;refine ρ ?_;refine Qp (k+1) (dif ((Jq n).getD k 0).toNat c ((Jq m).getD k 0).toNat / 9223372036854775808) (o++[UInt32.ofNat (dif ((Jq n).getD k 0).toNat c ((Jq m).getD k 0).toNat)]) ?_ ⟨s4,om,hI.step rfl,s3⟩ om;rw[Jsz];exact sB
  have am:(Jq m).length<=k:=by have:=oF h;omega
  have ag:(Jq m).getD k 0=0:=by grind
  refine ρ ?_;refine ix k a3 om ?_;obtain⟨s1,s2,s3,s4⟩:=store (dif ((Jq n).getD k 0).toNat c 0);rw[Ku];refine sto (s1.trans G) s2 ?_;refine ρ ?_;refine Ye rfl rfl (by decide) rfl ?_;refine ρ ?_;refine Qp (k+1) (dif ((Jq n).getD k 0).toNat c 0 / 9223372036854775808) (o++[UInt32.ofNat (dif ((Jq n).getD k 0).toNat c 0)]) ?_ ⟨s4,om,hI.step (by rw[ag];rfl),s3⟩ om;rw[Jsz];exact sB
 have ak:k=L:=by have:=oF h;omega
 subst ak;have a6:Rd J 1 O o.length (Nc o):=by
  have:=Rd.own (show J.ownsRow w'.heap.size 54 1 (.slice O k k) k (Nc o) by grind);rw[a7];exact this
 have a5:val o=n-m:=by
  obtain⟨i1,i2,i3⟩:=hI;rw[List.take_of_length_le (show(Jq n).length<=k by omega),List.take_of_length_le (show(Jq m).length<=k by omega),Yw,Yw]at i3;have hv:=Jyk o;rw[i1]at hv;rcases Nat.eq_zero_or_pos c with h0|h0
  repeat grind
 refine ρ ?_;rw[<-a7];refine cl (Jkb a6 (nR _) om) ?_;rintro t w4 ⟨rfl,rfl⟩;have:=Jyn a6 om;rw[a5]at this ⊢;refine ρ ?_;refine Vo ⟨⟨_,?_,this,λad _ _ e=>nL ah (hO ad (by injection e))⟩,C.trans Z⟩;rw[if_neg om]
end Go.Proofs.YtbcdghbonlifdaaGreatDoor
namespace Go.Proofs.YtbcdghbonlifdaaGreatDoor
namespace Pl
structure V where
 kind: Int
 num:Int
 str:ByteArray
def V.bytes(v:V): List UInt8:=v.str.data.toList
def V.cells(v:V): List Value:=[.int .i64 v.kind,.int .i64 v.num,.string v.str]
def V.val(v:V): Value:=.agg #[.int .i64 v.kind,.int .i64 v.num,.string v.str]
end Pl
open Go.RowKit Pl Go.Wk
attribute [local irreducible] WC WL QX WD WDB
def V0: V:=⟨0,0,⟨#[]⟩⟩
def Jh(r:List V): List Value:=r.flatMap V.cells
abbrev RdR(w:World)(A:Option Addr)(r:List V): Prop:=Rd w 3 A r.length (Jh r)
abbrev RdB(w:World)(A:Option Addr)(ds:List Bool): Prop:=Rd w 1 A ds.length (ds.map Value.bool)
theorem Jgl(r:List V): (Jh r).length=r.length*3:=by
 induction r with
 | nil=>rfl
 | cons v r ih=>simp only[Jh,List.flatMap_cons,List.length_append,V.cells,List.length_cons,List.length_nil]at ih ⊢;omega
theorem Jgm: ∀(r:List V) (i j:Nat),i<r.length->j<3->(Jh r)[i*3+j]?=(r.getD i V0).cells[j]?
 | [],i,j,h,_=>by simp at h
 | v::r,0,j,_,hj=>by
  simp only[Jh,List.flatMap_cons,Nat.zero_mul,Nat.zero_add,List.getD_cons_zero];grind [List.getElem?_append_left,V.cells]
 | v::r,i+1,j,h,hj=>by
  have ih:=Jgm r i j (by simpa using h) hj;grind [Jh,List.getD_cons_succ,List.getElem?_append_right,V.cells]
theorem RdR.cell{w:World}{A:Option Addr}{r:List V}(h:RdR w A r){i j:Nat}{u:Value}(hi:i<r.length)(hu:(r.getD i V0).cells[j]?=some u): w.cell? ((adr A (i*3)).add j)=some u:=by grind [List.getElem?_eq_some_iff.1,V.cells,Qo,Rd.cell,Jgm]
theorem RdB.cell{w:World}{A:Option Addr}{ds:List Bool}(h:RdB w A ds){i:Nat}(hi:i<ds.length): w.cell? (adr A i)=some (.bool (ds.getD i false)) :=
 Rd.cell h (by grind)
theorem V.one(v:V): ∀ u∈v.cells,u.oneCell'=true:=by
 intro u o;simp[V.cells]at o;rcases o with rfl|rfl|rfl<;>rfl
theorem Jxb(r:List V): ∀ u∈Jh r,u.oneCell'=true:=by
 intro u C;obtain⟨v,_,o⟩:=List.mem_flatMap.1 C;simp[V.cells]at o;rcases o with rfl|rfl|rfl<;>rfl
theorem Qlv(a b:List V): Jh (a++b)=Jh a++Jh b:=by simp[Jh]
def cmpV(a b:V): Int:=if a.kind≠b.kind then sgn a.kind b.kind else if a.num≠b.num then sgn a.num b.num else Lib.compareBytes a.bytes b.bytes
def neg(d:Bool)(c:Int): Int:=if d then -c else c
def Jw: List V->List V->List Bool->Int
 | [],[],_=>0
 | [],_::_,_=>-1
 | _::_,[],_=>1
 | x::a,y::b,ds=>if cmpV x y=0 then Jw a b (ds.drop 1) else neg (ds.getD 0 false) (cmpV x y)
theorem Xzt(a b:ByteArray)(w:World): Ret Tryz.prog 199 [.string a,.string b] w λv w'=>v=.int .i64 (Lib.compareBytes a.data.toList b.data.toList)/\w'=w:=by
 refine Jz Tryz.func199 Tryz.ntmps199 rfl kr rfl ?_;refine ρ ?_;refine wext (vs:=[.string a,.string b]) (v:=.int .i64 (Lib.compareBytes a.data.toList b.data.toList)) (w':=w) ?_ ?_
 .rw[run_callFunc_extern Tryz.func218 kr kr kr (e:=Extern.BytealgCompare.compare) kr,Lib.run_compareString];rfl
 refine ρ ?_;exact Jj ⟨rfl,rfl⟩
theorem Qhg(a b:ByteArray)(w:World): Ret Tryz.prog 179 [.string a,.string b] w λv w'=>v=.int .i64 (Lib.compareBytes a.data.toList b.data.toList)/\w'=w:=by
 refine Jz Tryz.func179 Tryz.ntmps179 rfl kr rfl ?_;refine ρ ?_;refine cl (Xzt a b w) ?_;rintro v w' ⟨rfl,rfl⟩;refine ρ ?_;exact Jj ⟨rfl,rfl⟩
theorem Jqt(a b:V)(w:World): Ret Tryz.prog 156 [a.val,b.val] w λr w'=>r=.int .i64 (cmpV a b)/\Ext w w':=by
 refine Jz Tryz.func156 Tryz.ntmps156 rfl kr rfl ?_;refine ρ ?_;refine bx ?_;intro w1 b1 D a1 o;refine ρ ?_;refine bx ?_;intro w2 b2 C Z u;have o:=o.ext C;have G:=D.trans C;refine ρ ?_;refine ld (o.at rfl) ?_;refine ρ ?_;refine ld (u.at rfl) ?_;refine ρ ?_;refine ci (λO=>?_) (λO=>?_)
 .refine ρ ?_;refine ld (o.at rfl) ?_;refine ρ ?_;refine ld (u.at rfl) ?_;refine ρ ?_;refine cl (Qwt _ _ _) ?_;rintro t J ⟨rfl,rfl⟩;refine ρ ?_;refine Jj ⟨?_,G⟩;grind [cmpV]
 refine ρ ?_;refine ld (o.at rfl) ?_;refine ρ ?_;refine ld (u.at rfl) ?_;refine ρ ?_;refine ci (λhn=>?_) (λhn=>?_)
 .refine ρ ?_;refine ld (o.at rfl) ?_;refine ρ ?_;refine ld (u.at rfl) ?_;refine ρ ?_;refine cl (Xzs _ _ _) ?_;rintro t J ⟨rfl,rfl⟩;refine ρ ?_;refine Jj ⟨?_,G⟩;grind [cmpV]
 refine ρ ?_;refine ld (o.at rfl) ?_;refine ρ ?_;refine ld (u.at rfl) ?_;refine ρ ?_;refine cl (Qhg _ _ _) ?_;rintro t J ⟨rfl,rfl⟩;refine ρ ?_;refine Jj ⟨?_,G⟩;rw[cmpV,if_neg (by simpa using O),if_neg (by simpa using hn)];rfl
end Go.Proofs.YtbcdghbonlifdaaGreatDoor
namespace Go.Proofs.YtbcdghbonlifdaaGreatDoor
open Pl
variable {α β:Type}
structure PreC{α:Type}(f:α->α->Int): Prop where
 anti:∀ a b,f b a = - f a b
 trans:∀ a b c,f a b<=0->f b c<=0->f a c<=0
theorem PreC.refl{f:α->α->Int}(h:PreC f)(a:α): f a a=0:=by have:=h.anti a a;omega
structure Cmp{α:Type}(f:α->α->Int): Prop where
 anti:∀ a b,f b a = - f a b
 zero:∀ a b,f a b=0->a=b
 trans:∀ a b c,f a b<=0->f b c<=0->f a c<=0
theorem Cmp.pre{f:α->α->Int}(h:Cmp f)(g:β->α): PreC λa b=>f (g a) (g b):=⟨λa b=>h.anti _ _,λa b c=>h.trans _ _ _⟩
section
variable {α:Type} {f:α->α->Int}
theorem Cmp.refl(h:Cmp f)(a:α): f a a=0:=by have:=h.anti a a;omega
theorem Cmp.lt_le(h:Cmp f){a b c:α}(h1:f a b<0)(h2:f b c<=0): f a c<0:=by
 have o:=h.trans a b c om h2;rcases Int.lt_or_eq_of_le o with h4|h4
 .exact h4
 have:=h.zero _ _ h4;subst this;have:=h.anti a b;omega
theorem Cmp.le_lt(h:Cmp f){a b c:α}(h1:f a b<=0)(h2:f b c<0): f a c<0:=by
 have o:=h.trans a b c h1 om;rcases Int.lt_or_eq_of_le o with h4|h4
 .exact h4
 have:=h.zero _ _ h4;subst this;have:=h.anti a b;omega
theorem Cmp.lt_trans(h:Cmp f){a b c:α}(h1:f a b<0)(h2:f b c<0): f a c<0:=h.lt_le h1 om
theorem Cmp.tot(h:Cmp f)(a b:α): f a b<0∨a=b∨f b a<0:=by
 have o:=h.anti a b;rcases Int.lt_trichotomy (f a b) 0 with h2|h2|h2
 .exact .inl h2
 .exact .inr (.inl (h.zero _ _ h2))
 repeat grind
theorem Cmp.flip(h:Cmp f): Cmp λa b=>- f a b :=
 ⟨λa b=>by rw[h.anti a b],λa b h0=>h.zero a b om,λa b c u o=>by
  have G:=h.anti a b;have D:=h.anti b c;have C:=h.anti a c;have:=h.trans c b a om om;omega⟩
end
theorem cmp_sgn: Cmp sgn:=by
 refine⟨λa b=>?_,λa b h=>?_,λa b c u o=>?_⟩
 .unfold sgn;split<;>split<;>omega
 .unfold sgn at h;split at h;repeat grind
 repeat grind [sgn]
theorem Jtf(a b:Int): sgn a b = -1∨sgn a b=0∨sgn a b=1:=by
 unfold sgn;grind
theorem Qyf: ∀ x y:List UInt8,Lib.compareBytes y x = - Lib.compareBytes x y
 | [],[]=>rfl
 | [],_::_=>rfl
 | _::_,[]=>rfl
 | a::x,b::y=>by
  simp only[Lib.compareBytes];have ih:=Qyf x y;grind
theorem Qyb: ∀ x y:List UInt8,Lib.compareBytes x y=0->x=y
 | [],[],_=>rfl
 | [],_::_,h=>by simp[Lib.compareBytes]at h
 | _::_,[],h=>by simp[Lib.compareBytes]at h
 | a::x,b::y,h=>by
  simp only[Lib.compareBytes,UInt8.lt_iff_toNat_lt]at h;split at h
  .cases h
  split at h
  .cases h
  rw[Qyb x y h,UInt8.toNat_inj.1 (show a.toNat=b.toNat by omega)]
theorem Qyc: ∀ x y z:List UInt8,Lib.compareBytes x y<=0->Lib.compareBytes y z<=0->Lib.compareBytes x z<=0
 | [],_,[],_,_=>by simp[Lib.compareBytes]
 | [],_,_::_,_,_=>by simp[Lib.compareBytes]
 | _::_,[],_,h,_=>by simp[Lib.compareBytes]at h
 | _::_,_::_,[],_,h=>by simp[Lib.compareBytes]at h
 | a::x,b::y,c::z,h1,h2=>by
  simp only[Lib.compareBytes,UInt8.lt_iff_toNat_lt]at *;split at h1
  .grind
  split at h1
  .grind
  split at h2
  .grind
  split at h2
  .grind
  rw[if_neg om,if_neg om];exact Qyc x y z h1 h2
theorem cb_3: ∀ x y:List UInt8,Lib.compareBytes x y = -1∨Lib.compareBytes x y=0∨Lib.compareBytes x y=1
 | [],[]=>by simp[Lib.compareBytes]
 | [],_::_=>by simp[Lib.compareBytes]
 | _::_,[]=>by simp[Lib.compareBytes]
 | a::x,b::y=>by
  simp only[Lib.compareBytes];split
  .simp
  split
  .simp
  exact cb_3 x y
theorem V.ext{a b:V}(h1:a.kind=b.kind)(h2:a.num=b.num)(h3:a.bytes=b.bytes): a=b:=by
 obtain⟨k,n,s⟩:=a;obtain⟨C,u,o⟩:=b;simp only[V.bytes]at *;obtain⟨d⟩:=s;obtain⟨D⟩:=o;simp only at h1 h2 h3;rw[h1,h2,Array.toList_inj.1 h3]
theorem Jyw{a b:Int}(h:a≠b): sgn a b≠0:=λe=>h (cmp_sgn.zero _ _ e)
theorem Qvd(a b:V): cmpV a b = -1∨cmpV a b=0∨cmpV a b=1:=by
 unfold cmpV;split
 .exact Jtf _ _
 split
 repeat grind [Jtf,cb_3]
theorem cmp_V: Cmp cmpV:=by
 refine⟨λa b=>?_,λa b h=>?_,λa b c u o=>?_⟩
 .unfold cmpV;by_cases h:a.kind=b.kind
  .rw[if_neg (not_not_intro h),if_neg (not_not_intro h.symm)];by_cases o:a.num=b.num
   .grind [Qyf]
   rw[if_pos o,if_pos (Ne.symm o)];exact cmp_sgn.anti _ _
  rw[if_pos h,if_pos (Ne.symm h)];exact cmp_sgn.anti _ _
 .unfold cmpV at h;split at h
  .grind [Jyw]
  rename_i u;split at h
  repeat grind [Jyw,V.ext,Qyb]
 unfold cmpV at *;by_cases k1:a.kind=b.kind<;>by_cases k2:b.kind=c.kind
 .have G:a.kind=c.kind:=k1.trans k2;rw[if_neg (by simp[k1])]at u;rw[if_neg (by simp[k2])]at o;rw[if_neg (by simp[G])];by_cases n1:a.num=b.num<;>by_cases n2:b.num=c.num
  .grind [Qyc]
  .grind
  .grind
  rw[if_pos n1]at u;rw[if_pos n2]at o;have D:=cmp_sgn.lt_le (a:=a.num) (c:=c.num) (by grind [Jyw]) o;have C:a.num≠c.num:=by intro e;rw[e,cmp_sgn.refl]at D;omega
  rw[if_pos C];omega
 .grind
 .grind
 rw[if_pos k1]at u;rw[if_pos k2]at o;have D:=cmp_sgn.lt_le (a:=a.kind) (c:=c.kind) (by grind [Jyw]) o;have C:a.kind≠c.kind:=by intro e;rw[e,cmp_sgn.refl]at D;omega
 rw[if_pos C];omega
theorem Zr(a:V): cmpV a a=0:=cmp_V.refl a
theorem Jhj(d:Bool): neg d 0=0:=by cases d<;>rfl
theorem Jql(d:Bool): Cmp λa b=>neg d (cmpV a b):=by
 cases d
 .exact cmp_V
 exact cmp_V.flip
theorem Jvh: ∀(a b:List V) (ds:List Bool),Jw b a ds = - Jw a b ds
 | [],[],_=>rfl
 | [],_::_,_=>rfl
 | _::_,[],_=>rfl
 | x::a,y::b,ds=>by
  simp only[Jw];have h:=cmp_V.anti x y;by_cases e:cmpV x y=0
  .rw[if_pos e,if_pos om];exact Jvh a b _
  rw[if_neg e,if_neg om];exact(Jql _).anti x y
theorem Jzk: ∀(a b:List V) (ds:List Bool),Jw a b ds=0->a=b
 | [],[],_,_=>rfl
 | [],_::_,_,h=>by simp[Jw]at h
 | _::_,[],_,h=>by simp[Jw]at h
 | x::a,y::b,ds,h=>by
  simp only[Jw]at h;split at h
  .rename_i e;rw[cmp_V.zero _ _ e,Jzk a b _ h]
  rename_i e;exact absurd (congrArg (cmpV x) ((Jql _).zero x y h)) (by grind [Zr])
theorem Jct: ∀(a b c:List V) (ds:List Bool),Jw a b ds<=0->Jw b c ds<=0->Jw a c ds<=0
 | [],_,[],_,_,_=>by simp[Jw]
 | [],_,_::_,_,_,_=>by simp[Jw]
 | _::_,[],_,_,h,_=>by simp[Jw]at h
 | _::_,_::_,[],_,_,h=>by simp[Jw]at h
 | x::a,y::b,z::c,ds,h1,h2=>by
  simp only[Jw]at *;have N:=Jql (ds.getD 0 false);by_cases e1:cmpV x y=0
  .rw[if_pos e1]at h1;rw[cmp_V.zero _ _ e1];by_cases e2:cmpV y z=0
   .rw[if_pos e2]at h2 ⊢;exact Jct a b c _ h1 h2
   repeat grind
  rw[if_neg e1]at h1;by_cases e2:cmpV y z=0
  .rw[<-cmp_V.zero _ _ e2,if_neg e1];exact h1
  rw[if_neg e2]at h2;have hne:neg (ds.getD 0 false) (cmpV x y)≠0:=λe=>e1 (by have:=N.zero x y e;grind [Zr]);have h3:=N.lt_le (a:=x) (b:=y) (c:=z) om h2;grind [cmpV,Jhj]
theorem Up(ds:List Bool): Cmp λa b=>Jw a b ds:=⟨λa b=>Jvh a b ds,λa b h=>Jzk a b ds h,λa b c u o=>Jct a b c ds u o⟩
theorem Yj(a:List V)(ds:List Bool): Jw a a ds=0:=(Up ds).refl a
open Go.RowKit Pl Go.Wk
attribute [local irreducible] WC WL QX WD WDB
variable {ds:List Bool}{a b:List V}{k:Nat}{va vb vd:Value}{w:World}
def RowV(w:World)(v:Value)(r:List V): Prop:=∃ A c,v=.slice A r.length c/\r.length<=c/\r.length<=1100000/\RdR w A r
def BoolsV(w:World)(v:Value)(ds:List Bool): Prop:=∃ A c,v=.slice A ds.length c/\ds.length<=c/\ds.length<=1100000/\RdB w A ds
theorem RowV.ext{w w':World}{v:Value}{r:List V}(h:RowV w v r)(hx:Ext w w'): RowV w' v r:=by
 obtain⟨A,c,D,C,u,o⟩:=h;exact⟨A,c,D,C,u,o.ext hx⟩
theorem BoolsV.ext{w w':World}{v:Value}{r:List Bool}(h:BoolsV w v r)(hx:Ext w w'): BoolsV w' v r:=by
 obtain⟨A,c,D,C,u,o⟩:=h;exact⟨A,c,D,C,u,o.ext hx⟩
theorem RowV.nil(w:World)(A:Option Addr)(c:Nat): RowV w (.slice A 0 c) []:=⟨A,c,rfl,by simp,by simp,Rd.nil⟩
theorem BoolsV.nil(w:World)(A:Option Addr)(c:Nat): BoolsV w (.slice A 0 c) []:=⟨A,c,rfl,by simp,by simp,Rd.nil⟩
theorem Qvn(ha:k<a.length)(hb:k<b.length): Jw (a.drop k) (b.drop k) (ds.drop k) =
  if cmpV (a.getD k V0) (b.getD k V0)=0 then Jw (a.drop (k+1)) (b.drop (k+1)) (ds.drop (k+1)) else neg (ds.getD k false) (cmpV (a.getD k V0) (b.getD k V0)):=by grind [List.drop_eq_getElem_cons,Jw,V0,List.getD,List.getElem?_eq_getElem,List.drop_drop]
theorem Qvl(hk:a.length<=k∨b.length<=k)(hka:k<=a.length)(hkb:k<=b.length): Jw (a.drop k) (b.drop k) (ds.drop k)=if a.length<b.length then -1 else if b.length<a.length then 1 else 0:=by
 rcases Nat.lt_trichotomy a.length b.length with h|h|h
 .rw[if_pos h,List.drop_of_length_le (by omega:a.length<=k),List.drop_eq_getElem_cons (by omega:k<b.length)];rfl
 .rw[if_neg om,if_neg om,List.drop_of_length_le (by omega:a.length<=k),List.drop_of_length_le (by omega:b.length<=k)];rfl
 rw[if_neg om,if_pos h,List.drop_of_length_le (by omega:b.length<=k),List.drop_eq_getElem_cons (by omega:k<a.length)];rfl
theorem Jpg(a b:V): IntKind.i64.wrap (0-cmpV a b)=neg true (cmpV a b):=by
 rcases Qvd a b with h|h|h<;>rw[h]<;>rfl
theorem Qsp(n m:Nat): (if(m:Int)<(n:Int) then(m:Int) else(n:Int))=((min n m:Nat):Int):=by split<;>omega
theorem Qwv(ha:RowV w va a)(hb:RowV w vb b)(hd:BoolsV w vd ds):
  Ret Tryz.prog 125 [va,vb,vd] w λr w'=>r=.int .i64 (Jw a b ds)/\Ext w w':=by
 obtain⟨A,ac,rfl,ak,aj,ha⟩:=ha;obtain⟨B,bc,rfl,ai,ah,hb⟩:=hb;obtain⟨D,dc,rfl,af,ae,hd⟩:=hd;refine Jz Tryz.func125 Tryz.ntmps125 rfl kr rfl ?_;refine ρ ?_;rw[Qsp];refine Qf (λk=>[(0,.slice A a.length ac),(1,.slice B b.length bc),(2,.slice D ds.length dc),(13,.int .i64 ((min a.length b.length:Nat):Int)),(14,.int .i64 ((k:Nat):Int))])
  (λk w'=>Ext w w'/\k<=a.length/\k<=b.length/\Jw a b ds=Jw (a.drop k) (b.drop k) (ds.drop k)) (λk=>a.length-k) 0 sB ⟨Ext.refl w,Nat.zero_le _,Nat.zero_le _,rfl⟩ ?_
 rintro k w1 ⟨G,a9,a8,he⟩;have ab:=ha.ext G;have aa:=hb.ext G;have ag:=hd.ext G;refine ρ ?_;have a7:(a.length<=k∨b.length<=k)->Jw a b ds=if a.length<b.length then -1 else if b.length<a.length then 1 else 0:=λh=>by rw[he,Qvl h a9 a8]
 refine ci (λh=>?_) (λh=>?_)
 .have ad:k<min a.length b.length:=by have:=oT h;omega
  have O:k<a.length:=om
  have J:k<b.length:=om
  refine ρ ?_;refine dr [(0,0),(0,1),(0,2),(0,3),(0,4),(0,5),(0,6),(0,7),(1,8),(0,9)] kr ?_;have C:Ext w1 w1.drew:=(Ext.refl w1).drew;have a6:=ab.ext C;have a5:=aa.ext C;refine ρd ?_;refine Vw 3 k a6 O ?_;refine ρd ?_;refine Jo (λj u hu=>RdR.cell a6 O hu) ?_;refine ρd ?_;refine Vw 3 k a5 J ?_;refine ρd ?_;refine Jo (λj u hu=>RdR.cell a5 J hu) ?_;refine ρd ?_;refine dcl (Jqt (a.getD k V0) (b.getD k V0) _) ?_;rintro x w2 ⟨rfl,a1⟩;refine⟨a1,?_⟩;have o:Ext w w2:=(G.trans C).trans a1;have a4:=hd.ext o;refine ρd ?_;refine ρ ?_;have step:=Qvn (ds:=ds) O J;refine ci (λh0=>?_) (λh0=>?_)
  .refine ρ ?_;refine Qw (k+1) sB ⟨o,om,om,?_⟩ om;grind
  have a2:=Zq h0;refine ρ ?_;refine ki 32 (λh=>?_) (λh=>?_)
  .have a3:k<ds.length:=by have:=oT h;omega
   refine ρ ?_;refine ix k a4 a3 ?_;refine ρ ?_;refine ld (RdB.cell a4 a3) ?_;refine ρ ?_;refine ci (λh1=>?_) (λh1=>?_)
   .refine ρ ?_;refine Jj ⟨?_,o⟩;grind [Jpg]
   refine ρ ?_;refine Jj ⟨?_,o⟩;rw[he,step,h1,if_neg a2];rfl
  have h1:ds.getD k false=false:=by grind
  refine ρ ?_;refine Jj ⟨?_,o⟩;rw[he,step,h1,if_neg a2];rfl
 have Z:=a7 (by grind);refine ρ ?_;refine ci (λh=>?_) (λh1=>?_)
 .refine ρ ?_;refine Jj ⟨?_,G⟩;rw[Z,if_pos (by grind)]
 refine ρ ?_;refine ci (λh=>?_) (λh2=>?_)
 .refine ρ ?_;refine Jj ⟨?_,G⟩;rw[Z,if_neg (by grind),if_pos (by grind)]
 refine ρ ?_;refine Jj ⟨?_,G⟩;rw[Z,if_neg (by grind),if_neg (by grind)]
theorem Jts(ha:RowV w va a)(hb:RowV w vb b):
  Ret Tryz.prog 84 [va,vb] w λr w'=>r=.int .i64 (Jw a b [])/\Ext w w':=by
 refine Jz Tryz.func84 Tryz.ntmps84 rfl kr rfl ?_;refine ρ ?_;refine cl (Qwv ha hb (BoolsV.nil w none 0)) ?_;rintro v u ⟨rfl,o⟩;refine ρ ?_;exact Jj ⟨rfl,o⟩
theorem Xkp(a b:List V)(ds:List Bool): (Jw a b ds == 0)=true↔a=b:=by
 constructor
 .intro h;exact Jzk _ _ _ (Xa h)
 repeat grind [Yj]
instance:DecidableEq V:=λa b=>if h:cmpV a b=0 then isTrue (cmp_V.zero _ _ h) else isFalse (λe=>h (by rw[e];exact Zr b))
theorem Xkn(a b:List V)(ds:List Bool): (Jw a b ds == 0)=decide (a=b):=by
 rw[Bool.eq_iff_iff,Xkp,decide_eq_true_iff]
theorem Jgg(ha:RowV w va a)(hb:RowV w vb b):
  Ret Tryz.prog 42 [va,vb] w λr w'=>r=.bool (decide (a=b))/\Ext w w':=by
 refine Jz Tryz.func42 Tryz.ntmps42 rfl kr rfl ?_;refine ρ ?_;refine cl (Jts ha hb) ?_;rintro v u ⟨rfl,o⟩;refine ρ ?_;refine Jj ⟨?_,o⟩;rw[Xkn]
open Go.RowKit Pl Go.Wk
attribute [local irreducible] WP
variable {j k x:Nat}
def Jr(x:Nat): Nat:=if x=0 then 0 else Nat.log2 x+1
theorem Jwg: x<2^Jr x:=by
 unfold Jr;split
 .omega
 exact Nat.lt_log2_self
theorem Jhw(h:x≠0): 0<Jr x/\2^(Jr x-1)<=x:=by grind [Jr,Nat.log2_self_le]
theorem Gk(h:x<2^k): Jr x<=k:=by
 unfold Jr;split
 .omega
 rename_i h0;have:=(Nat.log2_lt h0).2 h;omega
theorem Qts(h1:2^k<=x)(h2:x<2^(k+1)): Jr x=k+1:=by
 have u:=Gk h2;have o:=Jwg (x:=x);rcases Nat.lt_or_ge (Jr x) (k+1) with h|h
 .have:=Nat.pow_le_pow_right (show 0<2 by omega) (show Jr x<=k by omega);omega
 omega
theorem Jwf(h:2^k<=x): Jr x=k+Jr (x / 2^k):=by
 have hp:0<2^k:=Nat.pow_pos om;have o:x / 2^k≠0:=by
  have:=(Nat.le_div_iff_mul_le hp).2 (show 1*2^k<=x by omega);omega
 obtain⟨a,b⟩:=Jhw o;have c:=Jwg (x:=x / 2^k);generalize Jr (x / 2^k)=m at *
 obtain⟨m,rfl⟩:∃ j,m=j+1:=⟨m-1,om⟩;rw[Nat.add_sub_cancel]at b;have:=Qts (x:=x) (k:=k+m) (by grind [Nat.pow_add,Nat.le_div_iff_mul_le,Nat.mul_comm]) (by
  rw[show k+m+1=(m+1)+k by omega,Nat.pow_add];exact(Nat.div_lt_iff_lt_mul hp).1 c)
 omega
theorem tabB(s:ByteArray)(h:((List.range 256).all λj=>(s.data.toList.getD j 0).toNat == Jr j)=true)(hj:j<256): (s.data.toList.getD j 0).toNat=Jr j:=by grind
theorem Jkg(y k m:Nat): ((y:Int)).fdiv (2^(min ((k:Nat):Int).toNat m))=((y / 2^(min k m):Nat):Int):=by grind
theorem Qtt(x:Nat)(hx:x<18446744073709551616)(w:World): Ret Tryz.prog 81 [.int .u64 (x:Int)] w λv w'=>v=.int .i64 (Jr x:Int)/\w'=w:=by
 refine Jz Tryz.func81 Tryz.ntmps81 rfl kr rfl ?_;refine ρ ?_;refine Jjf (fun (y s:Nat)=>[(0,.int .u64 (y:Int)),(2,.int .i64 (s:Int))]) (λy s w'=>w'=w/\Jr x=s+Jr y/\y<4294967296/\s<=32) ?_ ?_
 .refine ci (λh=>?_) (λh=>?_)
  .have D:=oT h;refine ρ ?_;refine Ye rfl rfl (by decide) rfl ?_;refine kv 6 (u:=.int .u64 ((x / 2^32:Nat):Int)) (congrArg (Value.int .u64) (Jkg x 32 64)) ?_;refine ρ ?_;have e:=Jwf (x:=x) (k:=32) om;exact Vk (x / 2^32) 32 sO ⟨rfl,e,om,om⟩
  have D:=oF h;refine ρ ?_;exact Vk x 0 sO ⟨rfl,om,om,om⟩
 rintro C O w ⟨rfl,e0,b0,c0⟩;refine ρ ?_;refine Jjf (fun (y s:Nat)=>[(0,.int .u64 (y:Int)),(2,.int .i64 (s:Int))]) (λy s w'=>w'=w/\Jr x=s+Jr y/\y<65536/\s<=48) ?_ ?_
 .refine ci (λh=>?_) (λh=>?_)
  .have D:=oT h;refine ρ ?_;refine Ye rfl rfl (by decide) rfl ?_;refine kv 10 (u:=.int .u64 ((C / 2^16:Nat):Int)) (congrArg (Value.int .u64) (Jkg C 16 64)) ?_;refine ρ ?_;have e:=Jwf (x:=C) (k:=16) om;exact Vk (C / 2^16) (O+16) sO ⟨rfl,om,om,om⟩
  have D:=oF h;refine ρ ?_;exact Vk C O sO ⟨rfl,om,om,om⟩
 rintro o J w ⟨rfl,e1,b1,c1⟩;refine ρ ?_;refine Jjf (fun (y s:Nat)=>[(0,.int .u64 (y:Int)),(2,.int .i64 (s:Int))]) (λy s w'=>w'=w/\Jr x=s+Jr y/\y<256/\s<=56) ?_ ?_
 .refine ci (λh=>?_) (λh=>?_)
  .have D:=oT h;refine ρ ?_;refine Ye rfl rfl (by decide) rfl ?_;refine kv 16 (u:=.int .u64 ((o / 2^8:Nat):Int)) (congrArg (Value.int .u64) (Jkg o 8 64)) ?_;refine ρ ?_;have e:=Jwf (x:=o) (k:=8) om;exact Vk (o / 2^8) (J+8) sO ⟨rfl,om,om,om⟩
  have D:=oF h;refine ρ ?_;exact Vk o J sO ⟨rfl,om,om,om⟩
 rintro G s2 w ⟨rfl,e2,Z,c2⟩;refine ρ ?_;refine Jpf Ij G rfl rfl rfl rfl ?_ ?_ rfl ?_
 .rw[IntKind.wrap_u8];omega
 .exact nM Z (by decide)
 refine kv 22 (u:=.int .u8 (Jr G:Int)) (congrArg (λz:Nat=>Value.int .u8 (z:Int)) (tabB _ kr Z)) ?_;have:=Gk (x:=G) (k:=8) om;refine ρ ?_;refine Jj ⟨?_,rfl⟩;grind [Jqf,Jr]
theorem Qxv(x:Nat)(hx:x<4294967296)(w:World): Ret Tryz.prog 80 [.int .u32 (x:Int)] w λv w'=>v=.int .i64 (Jr x:Int)/\w'=w:=by
 refine Jz Tryz.func80 Tryz.ntmps80 rfl kr rfl ?_;refine ρ ?_;refine Jjf (fun (y s:Nat)=>[(0,.int .u32 (y:Int)),(2,.int .i64 (s:Int))]) (λy s w'=>w'=w/\Jr x=s+Jr y/\y<65536/\s<=16) ?_ ?_
 .refine ci (λh=>?_) (λh=>?_)
  .have D:=oT h;refine ρ ?_;refine Ye rfl rfl (by decide) rfl ?_;refine kv 6 (u:=.int .u32 ((x / 2^16:Nat):Int)) (congrArg (Value.int .u32) (Jkg x 16 32)) ?_;refine ρ ?_;have e:=Jwf (x:=x) (k:=16) om;exact Vk (x / 2^16) 16 sO ⟨rfl,e,om,om⟩
  have D:=oF h;refine ρ ?_;exact Vk x 0 sO ⟨rfl,om,om,om⟩
 rintro o G w ⟨rfl,e0,b0,c0⟩;refine ρ ?_;refine Jjf (fun (y s:Nat)=>[(0,.int .u32 (y:Int)),(2,.int .i64 (s:Int))]) (λy s w'=>w'=w/\Jr x=s+Jr y/\y<256/\s<=24) ?_ ?_
 .refine ci (λh=>?_) (λh=>?_)
  .have D:=oT h;refine ρ ?_;refine Ye rfl rfl (by decide) rfl ?_;refine kv 10 (u:=.int .u32 ((o / 2^8:Nat):Int)) (congrArg (Value.int .u32) (Jkg o 8 32)) ?_;refine ρ ?_;have e:=Jwf (x:=o) (k:=8) om;exact Vk (o / 2^8) (G+8) sO ⟨rfl,om,om,om⟩
  have D:=oF h;refine ρ ?_;exact Vk o G sO ⟨rfl,om,om,om⟩
 rintro C O w ⟨rfl,Z,J,c1⟩;refine ρ ?_;refine Jpf Ij C rfl rfl rfl rfl ?_ ?_ rfl ?_
 .rw[IntKind.wrap_u8];omega
 .exact nM J (by decide)
 refine kv 16 (u:=.int .u8 (Jr C:Int)) (congrArg (λz:Nat=>Value.int .u8 (z:Int)) (tabB _ kr J)) ?_;have:=Gk (x:=C) (k:=8) om;refine ρ ?_;refine Jj ⟨?_,rfl⟩;grind [Jqf,Jr]
theorem Qyw(x:Nat)(h:x<18446744073709551616)(w:World): Ret Tryz.prog 37 [.int .u64 (x:Int)] w λv w'=>v=.int .i64 (Jr x:Int)/\w'=w:=by
 refine Jz Tryz.func37 Tryz.ntmps37 rfl kr rfl ?_;refine ρ ?_;refine cl (Qtt x h w) ?_;rintro v w' ⟨rfl,rfl⟩;refine ρ ?_;exact Jj ⟨rfl,rfl⟩
end Go.Proofs.YtbcdghbonlifdaaGreatDoor
namespace Go.Proofs.YtbcdghbonlifdaaGreatDoor
variable {a a' b b' i j:Nat}
section
variable {α:Type} (z:α)
def swp(q:List α)(i j:Nat): List α:=(q.set i (q.getD j z)).set j (q.getD i z)
theorem Qgz(q:List α)(i j:Nat): (swp z q i j).length=q.length:=by simp[swp]
theorem Jlv(q:List α)(i k:Nat)(x:α)(hi:i<q.length): (q.set i x).getD k z=if k=i then x else q.getD k z:=by grind
theorem Jfk(q:List α)(hi:i<q.length)(hj:j<q.length)(k:Nat): (swp z q i j).getD k z=if k=j then q.getD i z else if k=i then q.getD j z else q.getD k z:=by grind [swp,Jlv]
theorem Qz(q:List α)(h:i<q.length): q.getD i z=q[i]:=by grind
theorem Jsc(q:List α)(hi:i<q.length)(hj:j<q.length): (swp z q i j).Perm q:=by grind [swp,Qz,List.set_set_perm]
theorem getD_mem'(q:List α)(h:i<q.length): q.getD i z∈q:=by grind
structure Seg(a b:Nat)(q q':List α): Prop where
 perm:q'.Perm q
 lo:∀ k,k<a->q'.getD k z=q.getD k z
 hi:∀ k,b<=k->q'.getD k z=q.getD k z
variable {z}
theorem Seg.len{q q':List α}(h:Seg z a b q q'): q'.length=q.length:=h.perm.length_eq
theorem Seg.refl(a b:Nat)(q:List α): Seg z a b q q:=⟨List.Perm.refl _,λ_ _=>rfl,λ_ _=>rfl⟩
theorem Seg.trans{a b:Nat}{q q' q'':List α}(h:Seg z a b q q')(k:Seg z a b q' q''): Seg z a b q q'' :=
 ⟨k.perm.trans h.perm,λi hi=>(k.lo i hi).trans (h.lo i hi),λi hi=>(k.hi i hi).trans (h.hi i hi)⟩
theorem Seg.mono{q q':List α}(h:Seg z a b q q')(h1:a'<=a)(h2:b<=b'): Seg z a' b' q q' :=
 ⟨h.perm,λi hi=>h.lo i om,λi hi=>h.hi i om⟩
theorem Seg.swp{q:List α}(h1:a<=i)(h2:i<b)(h3:a<=j)(h4:j<b)(hb:b<=q.length): Seg z a b q (swp z q i j) :=
 ⟨Jsc z q om om,λk o=>by grind [Jfk],λk o=>by grind [Jfk]⟩
theorem Qkk{q q':List α}(hl:q'.length=q.length)(h:∀ k,k<q.length->q'.getD k z=q.getD k z): q'=q:=by grind [List.ext_getElem,Qz]
theorem getD_take(q:List α)(a k:Nat)(h:k<a): (q.take a).getD k z=q.getD k z:=by simp[List.getD,h]
theorem Qkl(q:List α)(a k:Nat): (q.drop a).getD k z=q.getD (a+k) z:=by grind
theorem Seg.all{q q':List α}(h:Seg z a b q q')(hab:a<=b)(hb:b<=q.length){Φ:α->Prop}(H:∀ k,a<=k->k<b->Φ (q.getD k z)): ∀ k,a<=k->k<b->Φ (q'.getD k z):=by
 intro k h1 h2;have C:=h.len;have O:q'.take a=q.take a:=Qkk (z:=z) (by simp[C]) (λi hi=>by
  have o:i<a:=by simp at hi;omega
  rw[getD_take _ _ _ o,getD_take _ _ _ o];exact h.lo i o)
 have J:q'.drop b=q.drop b:=Qkk (z:=z) (by simp[C]) (λi hi=>by
  rw[Qkl,Qkl];exact h.hi _ om)
 have s:∀ l:List α,l=l.take a++((l.take b).drop a++l.drop b):=λl=>by grind [List.append_assoc,List.take_append_drop]
 have p:=h.perm;rw[s q',s q,O,J]at p;have D:=(List.perm_append_right_iff _).1 ((List.perm_append_left_iff _).1 p);have G:q'.getD k z∈(q'.take b).drop a:=by
  have e:((q'.take b).drop a).getD (k-a) z=q'.getD k z:=by grind
  grind [getD_mem']
 have u:=D.mem_iff.1 G;obtain⟨i,hi,Z⟩:=List.getElem_of_mem u;have:((q.take b).drop a).getD i z=q'.getD k z:=by grind
 grind
end
section
variable {α:Type} (z:α) (f:α->α->Int)
def SOn(q:List α)(a b:Nat): Prop:=∀ i j,a<=i->i<j->j<b->f (q.getD i z) (q.getD j z)<=0
variable {z f}
theorem SOn.mono{q:List α}(h:SOn z f q a b)(h1:a<=a')(h2:b'<=b): SOn z f q a' b':=λi j hi o u=>h i j om o om
theorem SOn.same{q q':List α}(h:SOn z f q a b)(he:∀ k,a<=k->k<b->q'.getD k z=q.getD k z): SOn z f q' a b:=λi j hi o u=>by
 rw[he i hi om,he j om u];exact h i j hi o u
theorem SOn.one(q:List α)(h:b<=a+1): SOn z f q a b:=λi j hi o u=>by omega
def InsI(z:α)(f:α->α->Int)(q:List α)(a i j:Nat): Prop:=a<=j/\j<=i/\(∀ k m,a<=k->k<m->m<=i->k≠j->m≠j->f (q.getD k z) (q.getD m z)<=0)/\(∀ m,j<m->m<=i->f (q.getD j z) (q.getD m z)<=0)
theorem InsI.start{q:List α}(h:SOn z f q a i)(hi:a<=i): InsI z f q a i i :=
 ⟨hi,Nat.le_refl _,λk m u o G D C=>h k m u o om,λm u o=>om⟩
theorem InsI.step{q:List α}(h:InsI z f q a i j)(hj:a<j)(hi:i<q.length)(hlt:f (q.getD j z) (q.getD (j-1) z)<0): InsI z f (swp z q j (j-1)) a i (j-1):=by
 obtain⟨h1,Z,O,J⟩:=h;have s:=λk=>Jfk z q (i:=j) (j:=j-1) om om k;refine⟨om,om,λk m u o G D C=>?_,λm u o=>?_⟩;repeat grind
theorem InsI.done0{q:List α}(h:InsI z f q a i a): SOn z f q a (i+1):=by
 obtain⟨O,J,G,D⟩:=h;intro k m C u o;grind
theorem InsI.done{q:List α}(hf:PreC f)(h:InsI z f q a i j)(hj:a<j)(hge:¬ f (q.getD j z) (q.getD (j-1) z)<0): SOn z f q a (i+1):=by
 obtain⟨Z,O,C,J⟩:=h;have o:f (q.getD (j-1) z) (q.getD j z)<=0:=by have:=hf.anti (q.getD j z) (q.getD (j-1) z);omega
 intro k m u G D;by_cases e:k=j
 .grind
 by_cases e2:m=j
 .subst e2;by_cases e3:k=m-1
  .rw[e3];exact o
  exact hf.trans _ _ _ (C k (m-1) u om om e om) o
 repeat grind
end
open Go.RowKit Pl Go.Wk
attribute [local irreducible] WC WL QX WD WDB WP
variable {ds:List Bool}{base c i j n:Nat}{A:Option Addr}{fv v:Value}{w w' w1:World}
abbrev Pr:= Value×List V
def z0: Pr:=(undef,[])
def Dat(w:World)(base:Nat)(v:Value)(ps:List Pr): Prop:=w.ownsRow base 46 1 v ps.length (ps.map (·.1))/\∀ p∈ps,p.1.oneCell'=true
theorem Dat.ext{ps:List Pr}(h:Dat w base v ps)(hx:Ext w w'): Dat w' base v ps:=⟨Jk h.1 hx,h.2⟩
theorem Dat.rd{ps:List Pr}(h:Dat w base (.slice A n c) ps)(hn:ps.length=n): Rd w 1 A n (ps.map (·.1)):=by
 have:=h.1;rw[hn]at this;exact Rd.own this
theorem Jkn{ps:List Pr}(h:i<ps.length): (ps.map (·.1))[i]?=some (ps.getD i z0).1:=by grind
theorem Dat.cell{w:World}{base:Nat}{A:Option Addr}{n c:Nat}{ps:List Pr}(h:Dat w base (.slice A n c) ps)(hn:ps.length=n){i:Nat}(hi:i<n): w.cell? (adr A i)=some (ps.getD i z0).1 :=
 (h.rd hn).cell (Jkn om)
theorem Dat.one{ps:List Pr}(h:Dat w base v ps)(hi:i<ps.length): (ps.getD i z0).1.oneCell'=true:=h.2 _ (getD_mem' z0 ps hi)
theorem Dat.store{ps:List Pr}(h:Dat w base (.slice A n c) ps)(hn:ps.length=n)(hi:i<n){p:Pr}(hp:p.1.oneCell'=true):
  w.frozen? (adr A i)=false/\Dat (w.setCell (adr A i) p.1) base (.slice A n c) (ps.set i p)/\w.grownBy (w.setCell (adr A i) p.1) (Value.slice A n c).ownBlock:=by
 have o:=h.1;rw[hn]at o;obtain⟨O,C,J,G,u⟩:=Za o (q:=i) om p.1;refine⟨C,⟨?_,λq D=>?_⟩,u⟩
 .grind [List.length_set,List.map_set]
 rcases List.mem_or_eq_of_mem_set D with h'|h'
 .exact h.2 q h'
 rw[h'];exact hp
theorem Dat.swap{ps:List Pr}(h:Dat w base (.slice A n c) ps)(hn:ps.length=n)(hi:i<n)(hj:j<n):
  w.frozen? (adr A i)=false/\Rd (w.setCell (adr A i) (ps.getD j z0).1) 1 A n ((ps.set i (ps.getD j z0)).map (·.1))/\(w.setCell (adr A i) (ps.getD j z0).1).frozen? (adr A j)=false /\
  (∃ u,(w.setCell (adr A i) (ps.getD j z0).1).cell? (adr A j)=some u)/\Dat ((w.setCell (adr A i) (ps.getD j z0).1).setCell (adr A j) (ps.getD i z0).1) base (.slice A n c) (swp z0 ps i j) /\
  w.grownBy ((w.setCell (adr A i) (ps.getD j z0).1).setCell (adr A j) (ps.getD i z0).1) (Value.slice A n c).ownBlock:=by
 obtain⟨Z,C,O⟩:=h.store hn hi (p:=ps.getD j z0) (h.one om);have o:(ps.set i (ps.getD j z0)).length=n:=by simp[hn]
 obtain⟨J,G,D⟩:=C.store o hj (p:=ps.getD i z0) (h.one om);exact⟨Z,C.rd o,J,⟨_,C.cell o hj⟩,G,Zn O D⟩
def fP(ds:List Bool)(p q:Pr): Int:=Jw p.2 q.2 ds
theorem preP(ds:List Bool): PreC (fP ds):=(Up ds).pre (β:=Pr) (λp=>p.2)
def CmpF(w:World)(row:Option Nat)(fv:Value)(M:List Pr)(ds:List Bool): Prop:=∃ fid first cap,fv=.func (.func fid) first cap /\
 ∀ w',w.grownBy w' row->∀ p q,p∈M->q∈M->Ret Tryz.prog fid (first.toList++[p.1,q.1]++cap.toList) w' λr w''=>r=.int .i64 (fP ds p q)/\Ext w' w''
theorem CmpF.step{row:Option Nat}{M M':List Pr}(h:CmpF w row fv M ds)(hg:w.grownBy w1 row)(hp:M'.Perm M): CmpF w1 row fv M' ds:=by
 obtain⟨D,first,G,O,J⟩:=h;exact⟨D,first,G,O,λw' C p q u o=>J w' (Zn hg C) p q (hp.mem_iff.1 u) (hp.mem_iff.1 o)⟩
theorem Xqd{a b:Nat}{ai bi:Int}{ps:List Pr}(hD:Dat w base (.slice A n c) ps)(hn:ps.length=n)(hai:ai=(a:Int))(hbi:bi=(b:Int))(hb:b<=n)(ha:a<=n)(hmx:n<=140737488355328)(hC:CmpF w (Value.slice A n c).ownBlock fv ps ds):
  Ret Tryz.prog 180 [.slice A n c,.int .i64 ai,.int .i64 bi,fv] w λv w'=>∃ ps',Dat w' base (.slice A n c) ps'/\Seg z0 a b ps ps'/\SOn z0 (fP ds) ps' a b/\w.grownBy w' (Value.slice A n c).ownBlock:=by
 subst hai;subst hbi;obtain⟨ab,first,ac,rfl,hC⟩:=hC;refine Jz Tryz.func180 Tryz.ntmps180 rfl kr rfl ?_;refine ρ ?_;refine Jt (fun (i:Nat) (q:List Pr)=>[(0,.slice A n c),(1,.int .i64 (a:Int)),(2,.int .i64 (b:Int)),(3,.func (.func ab) first ac),(8,.int .i64 ((i:Nat):Int))])
  (λi q w'=>a+1<=i/\(i<=b∨i=a+1)/\Seg z0 a b ps q/\SOn z0 (fP ds) q a i/\Dat w' base (.slice A n c) q/\w.grownBy w' (Value.slice A n c).ownBlock) (λi _=>b+1-i) (a+1) ps sO
  ⟨nR _,.inr rfl,Seg.refl _ _ _,SOn.one _ om,hD,Zu (Ext.refl w) _⟩ ?_
 rintro i q w1 ⟨hai,ag,a7,a8,aa,a6⟩;refine ρ ?_;refine ci (λh=>?_) (λh=>?_)
 .have af:i<b:=by have:=oT h;omega
  refine ρ ?_;refine Jt (fun (j:Nat) (q:List Pr)=>[(0,.slice A n c),(1,.int .i64 (a:Int)),(2,.int .i64 (b:Int)),(3,.func (.func ab) first ac),(8,.int .i64 ((i:Nat):Int)),(9,.int .i64 ((j:Nat):Int))])
   (λj q w'=>InsI z0 (fP ds) q a i j/\Seg z0 a b ps q/\Dat w' base (.slice A n c) q/\w.grownBy w' (Value.slice A n c).ownBlock) (λj _=>j) i q sB ⟨InsI.start a8 om,a7,aa,a6⟩ ?_
  rintro j q w2 ⟨hI,G,ae,ad⟩;have o:q.length=n:=by rw[G.len,hn]
  obtain⟨h1,h2,_,_⟩:=id hI;refine ρ ?_;refine dr [(0,0),(0,1),(0,2),(0,3),(0,4),(0,5),(0,6),(0,7),(0,8),(0,9),(0,10),(0,11),(0,12),(0,13),(1,14),(0,15),(0,16)] kr ?_;have a4:Ext w2 w2.drew:=(Ext.refl w2).drew;have J:=ae.ext a4;have a2:=Zn ad (Zu a4 _);refine ρd ?_;refine dki 21 (λh=>?_) (λh=>?_)
  .have hj:a<j:=by have:=oT h;omega
   have Z:j<n:=om
   have D:j-1<n:=om
   refine ρd ?_;refine dix j (J.rd o) Z ?_;refine ρd ?_;refine dld (J.cell o Z) ?_;refine ρd ?_;refine dix (j-1) (J.rd o) D ?_;refine ρd ?_;refine dld (J.cell o D) ?_;refine ρd ?_;refine Vm (hC _ a2 (q.getD j z0) (q.getD (j-1) z0) (G.perm.mem_iff.1 (getD_mem' z0 q om)) (G.perm.mem_iff.1 (getD_mem' z0 q om))) ?_;rintro r w4 ⟨rfl,a1⟩;refine⟨a1,?_⟩;have a9:=J.ext a1;have a5:=Zn a2 (Zu a1 _);refine ρd ?_;refine ρ ?_;refine ci (λh=>?_) (λh=>?_)
   .have O:=oT h;refine ρ ?_;refine drC 4 [0,1,2,3,4,5,6,7,10,11] [(0,8),(0,9),(0,12),(0,13),(0,14),(2,15),(2,16),(2,17)] kr ?_;have a3:Ext w4 w4.drew:=(Ext.refl w4).drew;have C:=a9.ext a3;obtain⟨s1,s2,s3,⟨u,s4⟩,s5,s6⟩:=C.swap o Z D;refine ρp ?_;refine dix (j-1) (C.rd o) D ?_;refine ρd ?_;refine dld (C.cell o D) ?_;refine ρd ?_;refine dix j (C.rd o) Z ?_;refine ρd ?_;refine dld (C.cell o Z) ?_;refine ρd ?_;refine dix j (C.rd o) Z ?_;refine ρd ?_;refine Qj ?_;refine sto (C.cell o Z) s1 ?_ (hv:=C.one (o.symm ▸ D));refine ρ ?_;refine Qs ?_;refine Qj ?_;refine ix (j-1) s2 D ?_;refine ρ ?_;refine Qs ?_;refine Qj ?_;refine sto s4 s3 ?_ (hv:=C.one (o.symm ▸ Z));refine ρ ?_;exact Jf (j-1) (swp z0 q j (j-1)) sO ⟨hI.step hj om O,G.trans (Seg.swp om om om om om),s5,Zn a5 (Zn (Zu a3 _) s6)⟩ om
   have O:=oF h;refine ρ ?_;exact Jf (i+1) q sB ⟨om,om,G,hI.done (preP ds) hj O,a9,a5⟩ om
  have hj:j=a:=by have:=oF h;omega
  subst hj;refine ρd ?_;refine ρ ?_;exact Jf (i+1) q sB ⟨om,om,G,hI.done0,J,a2⟩ om
 refine ρ ?_;have hbi:b<=i:=by grind
 exact Kp ⟨q,aa,a7,a8.mono (nR _) hbi,a6⟩
end Go.Proofs.YtbcdghbonlifdaaGreatDoor
namespace Go.Wk
variable {a b:Int}{k1 k2:IntKind}{x y:Operand}{t yt:TypeId}
section
variable {P:Program} {n:Nat} {al:AL} {w:World} {Q:Exit->Act->World->Prop} {ops:Array Oper} {rest:List Oper} {d ty:Nat} {pos:String} {aft:Array Edge}
theorem qn(m q:Nat)(k:WL P n ops Q rest ((d,.int .i64 ((m / q:Nat):Int))::al) w)(hx:ev al x=some (.int .i64 a):=by rfl)(hy:ev al y=some (.int .i64 b):=by rfl)(ha:a=(m:Int):=by first|rfl|omega)(hb:b=(q:Int):=by first|rfl|omega)(h0:0<q:=by omega)(hm:m<=9223372036854775807:=by omega)(hd:Nat.blt d n=true:=by rfl): WL P n ops Q (⟨some d,.binOp .quo t x y yt,ty,pos,aft,none⟩::rest) al w:=by
 subst ha;subst hb;refine wquo hx hy om hd ?_;have e:IntKind.i64.wrap ((m:Int).tdiv (q:Int))=((m / q:Nat):Int):=by
  rw[Int.tdiv_eq_ediv_of_nonneg om,<-Int.natCast_ediv];have:=Nat.div_le_self m q;generalize m / q=r at *
  exact Jqf om
 rw[e];exact k
variable {drest:List (Nat×Oper)}
theorem dshl(k:WD P n ops Q drest ((d,.int k1 (k1.wrap (a*2^(min b.toNat k1.bits))))::al) w)(hx:ev al x=some (.int k1 a):=by rfl)(hy:ev al y=some (.int k2 b):=by rfl)(h0:0<=b:=by decide)(hd:Nat.blt d n=true:=by rfl):
  WD P n ops Q ((0,⟨some d,.binOp .shl t x y yt,ty,pos,aft,none⟩)::drest) al w :=
 dy (λw' _ e o=>by
  have u:¬ b<0:=om
  simp[execOp,o.ev hx,o.ev hy,eqGuard,binOp,Op.shift,u]) hd k
theorem dshr(k:WD P n ops Q drest ((d,.int k1 (a.fdiv (2^(min b.toNat k1.bits))))::al) w)(hx:ev al x=some (.int k1 a):=by rfl)(hy:ev al y=some (.int k2 b):=by rfl)(h0:0<=b:=by decide)(hd:Nat.blt d n=true:=by rfl):
  WD P n ops Q ((0,⟨some d,.binOp .shr t x y yt,ty,pos,aft,none⟩)::drest) al w :=
 dy (λw' _ e o=>by
  have u:¬ b<0:=om
  simp[execOp,o.ev hx,o.ev hy,eqGuard,binOp,Op.shift,u]) hd k
end
end Go.Wk
namespace Go.Proofs.YtbcdghbonlifdaaGreatDoor
open Go.RowKit Pl Go.Wk
attribute [local irreducible] WC WL QX WD WDB WP
variable {cap first:Array Value}{fid:FuncId}{ai bi fsti hii loi:Int}{ds:List Bool}{M ps q q':List Pr}{a b base c fst g hi i j lo n t:Nat}{A:Option Addr}{x y:Pr}{w w' w0 w1:World}
structure DP(w0 w:World)(base:Nat)(A:Option Addr)(n c:Nat)(ps q:List Pr): Prop where
 d:Dat w base (.slice A n c) q
 p:q.Perm ps
 g:w0.grownBy w (Value.slice A n c).ownBlock
 l:q.length=n
section
variable {w0 w w':World} {base:Nat} {A:Option Addr} {n c:Nat} {ps q:List Pr}
theorem DP.start(hD:Dat w base (.slice A n c) ps)(hn:ps.length=n): DP w w base A n c ps ps:=⟨hD,List.Perm.refl _,Zu (Ext.refl w) _,hn⟩
theorem DP.ext(h:DP w0 w base A n c ps q)(hx:Ext w w'): DP w0 w' base A n c ps q:=⟨h.d.ext hx,h.p,Zn h.g (Zu hx _),h.l⟩
theorem DP.drew(h:DP w0 w base A n c ps q): DP w0 w.drew base A n c ps q:=h.ext (Ext.refl w).drew
theorem DP.rd(h:DP w0 w base A n c ps q): Rd w 1 A n (q.map (·.1)):=h.d.rd h.l
theorem DP.cell(h:DP w0 w base A n c ps q){i:Nat}(hi:i<n): w.cell? (adr A i)=some (q.getD i z0).1:=h.d.cell h.l hi
theorem DP.one(h:DP w0 w base A n c ps q){i:Nat}(hi:i<n): (q.getD i z0).1.oneCell'=true:=h.d.one (h.l.symm ▸ hi)
theorem DP.swap(h:DP w0 w base A n c ps q){i j:Nat}(hi:i<n)(hj:j<n):
  w.frozen? (adr A i)=false/\Rd (w.setCell (adr A i) (q.getD j z0).1) 1 A n ((q.set i (q.getD j z0)).map (·.1))/\(w.setCell (adr A i) (q.getD j z0).1).frozen? (adr A j)=false /\
  (∃ u,(w.setCell (adr A i) (q.getD j z0).1).cell? (adr A j)=some u)/\DP w0 ((w.setCell (adr A i) (q.getD j z0).1).setCell (adr A j) (q.getD i z0).1) base A n c ps (swp z0 q i j)/\w.grownBy ((w.setCell (adr A i) (q.getD j z0).1).setCell (adr A j) (q.getD i z0).1) (Value.slice A n c).ownBlock:=by
 obtain⟨O,J,G,D,C,o⟩:=h.d.swap h.l hi hj;exact⟨O,J,G,D,⟨C,(Jsc z0 q (h.l.symm ▸ hi) (h.l.symm ▸ hj)).trans h.p,Zn h.g o,by rw[Qgz];exact h.l⟩,o⟩
theorem DP.box(h:DP w0 w base A n c ps q){cs:List Value}(hB:Blk w g t cs)(hne:Nat.beq 46 t=false)(hg:w0.heap.size<=g)(u:Value): DP w0 (w.setCell ⟨g,0,none⟩ u) base A n c ps q:=by
 have C:w.grownBy (w.setCell ⟨g,0,none⟩ u) (some g):=⟨rfl,rfl,rfl,by simp[World.setCell],λk o hn=>Below.heap_setCell w ⟨g,0,none⟩ u k (λe=>hn (by rw[e]))⟩;refine⟨⟨h.d.1.kept C (Or.inr ?_),h.d.2⟩,h.p,?_,h.l⟩
 .exactλe=>hB.ne_own h.d.1 hne e.symm
 refine⟨h.g.os,h.g.tape,h.g.output,?_,λk o hn=>?_⟩
 .simp[World.setCell];exact h.g.size
 exact(Below.heap_setCell w ⟨g,0,none⟩ u k (by simp;omega)).trans (h.g.block k o hn)
end
def CF(w:World)(row:Option Nat)(fid:FuncId)(first cap:Array Value)(M:List Pr)(ds:List Bool): Prop :=
 ∀ w',w.grownBy w' row->∀ p q,p∈M->q∈M->Ret Tryz.prog fid (first.toList++[p.1,q.1]++cap.toList) w' λr w''=>r=.int .i64 (fP ds p q)/\Ext w' w''
theorem CF.call(hC:CF w0 (Value.slice A n c).ownBlock fid first cap ps ds)(h:DP w0 w base A n c ps q)(hi:i<n)(hj:j<n):
  Ret Tryz.prog fid (first.toList++[(q.getD i z0).1,(q.getD j z0).1]++cap.toList) w λr w''=>∃ b:Int,r=.int .i64 b/\Ext w w'' :=
 (hC w h.g _ _ (h.p.mem_iff.1 (getD_mem' z0 q (h.l.symm ▸ hi))) (h.p.mem_iff.1 (getD_mem' z0 q (h.l.symm ▸ hj)))).mono λr w'' ⟨u,o⟩=>⟨_,u,o⟩
theorem CF.callV(hC:CF w0 (Value.slice A n c).ownBlock fid first cap ps ds)(h:DP w0 w base A n c ps q)(hi:i<n)(hj:j<n):
  Ret Tryz.prog fid (first.toList++[(q.getD i z0).1,(q.getD j z0).1]++cap.toList) w λr w''=>r=.int .i64 (fP ds (q.getD i z0) (q.getD j z0))/\Ext w w'' :=
 hC w h.g _ _ (h.p.mem_iff.1 (getD_mem' z0 q (h.l.symm ▸ hi))) (h.p.mem_iff.1 (getD_mem' z0 q (h.l.symm ▸ hj)))
instance instPr: Inhabited Pr:=⟨z0⟩
def ltP(ds:List Bool)(p q:Pr): Bool:=decide (fP ds p q<0)
theorem az(q:List Pr)(i:Nat): q.toArray[i]! = q.getD i z0:=by
 rw[getElem!_def];simp only[List.getElem?_toArray,List.getD];cases q[i]?<;>rfl
theorem swz(q:List Pr)(i j:Nat): Go.Sort.swp q.toArray i j=(swp z0 q i j).toArray:=by
 unfold Go.Sort.swp swp;rw[az,az,List.setIfInBounds_toArray,List.setIfInBounds_toArray]
theorem Jhq(h:ltP ds x y=true): Jw x.2 y.2 ds<0:=oT (p:=fP ds x y<0) h
theorem Jxw(h:ltP ds x y=false): Jw y.2 x.2 ds<=0:=by
 have o:¬ Jw x.2 y.2 ds<0:=oF (p:=fP ds x y<0) h;have:=Jvh x.2 y.2 ds;omega
theorem ltP_f'(h:Jw y.2 x.2 ds<=0): ltP ds x y=false:=dF (p:=fP ds x y<0) (by
 have:=Jvh x.2 y.2 ds;show¬ Jw x.2 y.2 ds<0;omega)
theorem swoP(ds:List Bool): Go.Sort.SWO (ltP ds) :=
 ⟨λx=>ltP_f' (by rw[Yj];exact Int.le_refl _),λx y z u o=>decide_eq_true (p:=fP ds x z<0) ((Up ds).lt_le (Jhq u) (Int.le_of_lt (Jhq o))),
  λx y z u o=>ltP_f' (Jct z.2 y.2 x.2 ds (Jxw o) (Jxw u))⟩
theorem DP.seg(h:DP w0 w base A n c ps q)(k:Go.Sort.PermIn a b ps.toArray q.toArray): Seg z0 a b ps q :=
 ⟨h.p,λi hi=>by have:=k.2.1 i (.inl hi);rwa [az,az]at this,λi hi=>by have:=k.2.1 i (.inr hi);rwa [az,az]at this⟩
theorem Jsq(h:Go.Sort.SortedIn (ltP ds) a b q.toArray): SOn z0 (fP ds) q a b:=λi j hi o u=>by
 have:=h i j hi o u;rw[az,az]at this;exact Jxw this
theorem Qhv(ds:List Bool)(hi fst root:Nat)(q:List Pr): Go.Sort.siftDown (ltP ds) hi fst root q.toArray=if 2*root+1 ≥ hi then q.toArray else
  if ltP ds (q.getD (fst+root) z0) (q.getD (fst+(if(decide (2*root+2<hi) && ltP ds (q.getD (fst+(2*root+1)) z0) (q.getD (fst+(2*root+1)+1) z0))=true then 2*root+2 else 2*root+1)) z0)=true then
   Go.Sort.siftDown (ltP ds) hi fst (if(decide (2*root+2<hi) && ltP ds (q.getD (fst+(2*root+1)) z0) (q.getD (fst+(2*root+1)+1) z0))=true then 2*root+2 else 2*root+1)
    (swp z0 q (fst+root) (fst+(if(decide (2*root+2<hi) && ltP ds (q.getD (fst+(2*root+1)) z0) (q.getD (fst+(2*root+1)+1) z0))=true then 2*root+2 else 2*root+1))).toArray
  else q.toArray:=by
 rw[Go.Sort.siftDown];by_cases h1:2*root+1 ≥ hi
 .rw[dif_pos h1,if_pos h1]
 rw[dif_neg h1,if_neg h1];simp only[az,swz];by_cases h2:(decide (2*root+2<hi) && ltP ds (q.getD (fst+(2*root+1)) z0) (q.getD (fst+(2*root+1)+1) z0))=true
 .have o:2*root+2<hi:=by simp at h2;exact h2.1
  rw[if_pos (show(decide (2*root+1+1<hi) && ltP ds (q.getD (fst+(2*root+1)) z0) (q.getD (fst+(2*root+1)+1) z0))=true from h2),if_pos h2,dif_pos o];cases ltP ds (q.getD (fst+root) z0) (q.getD (fst+(2*root+2)) z0)<;>simp
 rw[if_neg (show¬ (decide (2*root+1+1<hi) && ltP ds (q.getD (fst+(2*root+1)) z0) (q.getD (fst+(2*root+1)+1) z0))=true from h2),if_neg h2];cases ltP ds (q.getD (fst+root) z0) (q.getD (fst+(2*root+1)) z0)<;>simp
theorem CF.pack{row:Option Nat}(h:CF w row fid first cap M ds): CmpF w row (.func (.func fid) first cap) M ds:=⟨fid,first,cap,rfl,h⟩
theorem CF.step(hC:CF w (Value.slice A n c).ownBlock fid first cap ps ds)(h:DP w w1 base A n c ps q): CF w1 (Value.slice A n c).ownBlock fid first cap q ds :=
 λw' o a b C u=>hC w' (Zn h.g o) a b (h.p.mem_iff.1 C) (h.p.mem_iff.1 u)
theorem DP.after(h:DP w0 w base A n c ps q)(k:DP w w' base A n c q q'): DP w0 w' base A n c ps q':=⟨k.d,k.p.trans h.p,Zn h.g k.g,k.l⟩
theorem Qmc(hD:Dat w base (.slice A n c) ps)(hn:ps.length=n)(hmx:n<=140737488355328)(hC:CF w (Value.slice A n c).ownBlock fid first cap ps ds)(hai:ai=(a:Int))(hbi:bi=(b:Int))(hab:a<b)(hb:b<=n):
  Ret Tryz.prog 184 [.slice A n c,.int .i64 ai,.int .i64 bi,.func (.func fid) first cap] w λv w'=>∃ ps',DP w w' base A n c ps ps'/\Seg z0 a b ps ps':=by
 subst hai;subst hbi;refine Jz Tryz.func184 Tryz.ntmps184 rfl kr rfl ?_;refine ρ ?_;refine Xm (fun (i j:Nat) (q:List Pr)=>[(0,.slice A n c),(8,.int .i64 (i:Int)),(9,.int .i64 ((j:Int)-1))])
  (λi j q w'=>DP w w' base A n c ps q/\j<=b/\a<=i/\i<=n/\Seg z0 a b ps q) (λi j _=>n+j-i) a b ps sO ⟨DP.start hD hn,Nat.le_refl _,Nat.le_refl _,om,Seg.refl _ _ _⟩ ?_
 rintro i j q w1 ⟨H,hj,hai,hi,G⟩;refine ρ ?_;refine ci (λh=>?_) (λh=>?_)
 .have a1:i+1<j:=by have:=oT h;omega
  have C:i<n:=om
  have D:j-1<n:=om
  refine ρ ?_;refine drC 4 [0,1,2,3,4,5,8,9] [(0,6),(0,7),(0,10),(0,11),(0,12),(2,13),(2,14),(2,15)] kr ?_;have o:=H.drew;obtain⟨s1,s2,Z,⟨u,O⟩,J,s6⟩:=o.swap C D;refine ρp ?_;refine dix (j-1) o.rd D ?_;refine ρd ?_;refine dld (o.cell D) ?_;refine ρd ?_;refine dix (i) o.rd C ?_;refine ρd ?_;refine dld (o.cell C) ?_;refine ρd ?_;refine dix (i) o.rd C ?_;refine ρd ?_;refine Qj ?_;refine sto (o.cell C) s1 ?_ (hv:=o.one D);refine ρ ?_;refine Qs ?_;refine Qj ?_;refine ix (j-1) s2 D ?_;refine ρ ?_;refine Qs ?_;refine Qj ?_;refine sto O Z ?_ (hv:=o.one C);refine ρ ?_;exact Qp (i+1) (j-1) (swp z0 q i (j-1)) sO ⟨J,om,om,om,G.trans (Seg.swp om om om om (by rw[H.l];exact hb))⟩ om
 refine ρ ?_;exact Kp ⟨q,H,G⟩
theorem Jsv(hD:Dat w base (.slice A n c) ps)(hn:ps.length=n)(hmx:n<=140737488355328)(hC:CF w (Value.slice A n c).ownBlock fid first cap ps ds)(hlo:loi=(lo:Int))(hhi:hii=(hi:Int))(hfst:fsti=(fst:Int))(hb:fst+hi<=n)(hl:lo<=n):
  Ret Tryz.prog 200 [.slice A n c,.int .i64 loi,.int .i64 hii,.int .i64 fsti,.func (.func fid) first cap] w λv w'=>∃ ps',DP w w' base A n c ps ps'/\Go.Sort.siftDown (ltP ds) hi fst lo ps.toArray=ps'.toArray:=by
 subst hlo;subst hhi;subst hfst;refine Jz Tryz.func200 Tryz.ntmps200 rfl kr rfl ?_;refine ρ ?_;refine Jt (fun (o:Nat) (q:List Pr)=>[(0,.slice A n c),(2,.int .i64 (hi:Int)),(3,.int .i64 (fst:Int)),(4,.func (.func fid) first cap),(10,.int .i64 (o:Int))])
  (λo q w'=>DP w w' base A n c ps q/\o<=n/\Go.Sort.siftDown (ltP ds) hi fst lo ps.toArray=Go.Sort.siftDown (ltP ds) hi fst o q.toArray) (λo _=>n-o) lo ps sB ⟨DP.start hD hn,hl,rfl⟩ ?_
 rintro o q w1 ⟨H,hr,J⟩;rw[Qhv ds hi fst o q]at J;refine ρ ?_;refine ci (λh=>?_) (λh=>?_)
 .rw[if_pos (show 2*o+1 ≥ hi by have:=oT h;omega)]at J;refine ρ ?_;exact Kp ⟨q,H,J⟩
 have aa:2*o+1<hi:=by have:=oF h;omega
 rw[if_neg (show¬ 2*o+1 ≥ hi by omega)]at J;refine ρ ?_;refine Zw (fun (b:Bool)=>[(0,.slice A n c),(2,.int .i64 (hi:Int)),(3,.int .i64 (fst:Int)),(4,.func (.func fid) first cap),(10,.int .i64 (o:Int)),(11,.int .i64 (2*(o:Int)+1)),(40,.bool b)]) (λb w'=>DP w w' base A n c ps q/\(b=true->2*o+2<hi)/\b=(decide (2*o+2<hi) && ltP ds (q.getD (fst+(2*o+1)) z0) (q.getD (fst+(2*o+1)+1) z0))) ?_ ?_
 .skip
  refine dr [(0,0),(0,1),(0,2),(0,3),(0,4),(0,5),(0,6),(0,7),(0,8),(0,9),(0,10),(0,11),(0,12),(0,13),(0,14),(0,15),(0,16),(0,17),(0,18),(1,19),(0,20),(0,21)] kr ?_;have Hd:=H.drew;refine ρd ?_;refine dki 23 (λh=>?_) (λh=>?_)
  .have a3:2*o+2<hi:=by have:=oT h;omega
   have li:fst+(2*o+1)<n:=om
   have lj:fst+(2*o+1)+1<n:=om
   refine ρd ?_;refine dix (fst+(2*o+1)) Hd.rd li ?_;refine ρd ?_;refine dld (Hd.cell li) ?_;refine ρd ?_;refine dix (fst+(2*o+1)+1) Hd.rd lj ?_;refine ρd ?_;refine dld (Hd.cell lj) ?_;refine ρd ?_;refine Vm (hC.callV Hd li lj) ?_;rintro r a8 ⟨rfl,a2⟩;refine⟨a2,?_⟩;have H2:=Hd.ext a2;refine ρd ?_;refine ρ ?_;exact Jb _ sB ⟨H2,λ_=>a3,by rw[decide_eq_true a3];rfl⟩
  refine ρd ?_;refine ρ ?_;exact Jb false sB ⟨Hd,(λe=>by cases e),by rw[decide_eq_false (show¬ 2*o+2<hi by have:=oF h;omega)];rfl⟩
 rintro b w2 ⟨H2,a6,a5⟩;rw[<-a5]at J;refine Zw (fun (C:Nat)=>[(0,.slice A n c),(2,.int .i64 (hi:Int)),(3,.int .i64 (fst:Int)),(4,.func (.func fid) first cap),(10,.int .i64 (o:Int)),(11,.int .i64 (C:Int))]) (λC w'=>DP w w' base A n c ps q/\o<C/\C<hi/\C=if b=true then 2*o+2 else 2*o+1) ?_ ?_
 .refine ci (λh=>?_) (λh=>?_)
  .have:=a6 h;refine ρ ?_;exact Jb (2*o+2) sO ⟨H2,om,om,by rw[if_pos h]⟩
  refine ρ ?_;exact Jb (2*o+1) sO ⟨H2,om,om,by rw[if_neg (by rw[h];decide)]⟩
 rintro C w3 ⟨H3,a3,a9,a4⟩;rw[<-a4]at J;have O:fst+o<n:=om
 have Z:fst+C<n:=om
 refine ρ ?_;refine dr [(0,0),(0,1),(0,2),(0,3),(0,4),(0,5),(0,6),(0,7),(0,8),(0,9),(0,10),(0,11),(0,12),(1,13),(0,14),(0,15)] kr ?_;have G:=H3.drew;refine ρd ?_;refine ρd ?_;refine dix (fst+o) G.rd O ?_;refine ρd ?_;refine dld (G.cell O) ?_;refine ρd ?_;refine dix (fst+C) G.rd Z ?_;refine ρd ?_;refine dld (G.cell Z) ?_;refine ρd ?_;refine Vm (hC.callV G O Z) ?_;rintro r a7 ⟨rfl,a1⟩;refine⟨a1,?_⟩;have H4:=G.ext a1;refine ρd ?_;refine ρ ?_;refine ci (λh=>?_) (λh=>?_)
 .have hf:ltP ds (q.getD (fst+o) z0) (q.getD (fst+C) z0)=false:=by simpa [ltP] using h
  rw[if_neg (by rw[hf];decide)]at J;refine ρ ?_;exact Jww ⟨q,H4,J⟩
 have ht:ltP ds (q.getD (fst+o) z0) (q.getD (fst+C) z0)=true:=by simpa [ltP] using h
 rw[if_pos ht]at J;refine ρ ?_;refine drC 4 [0,1,2,3,4,5,6,7,8,9,10,11,14,15,16,17] [(0,12),(0,13),(0,18),(0,19),(0,20),(2,21),(2,22),(2,23)] kr ?_;have D:=H4.drew;obtain⟨s1,s2,s3,⟨u,s4⟩,s5,s6⟩:=D.swap O Z;refine ρp ?_;refine dix (fst+C) D.rd Z ?_;refine ρd ?_;refine dld (D.cell Z) ?_;refine ρd ?_;refine dix (fst+o) D.rd O ?_;refine ρd ?_;refine dld (D.cell O) ?_;refine ρd ?_;refine dix (fst+o) D.rd O ?_;refine ρd ?_;refine Qj ?_;refine sto (D.cell O) s1 ?_ (hv:=D.one Z);refine ρ ?_;refine Qs ?_;refine Qj ?_;refine ix (fst+C) s2 Z ?_;refine ρ ?_;refine Qs ?_;refine Qj ?_;refine sto s4 s3 ?_ (hv:=D.one O);refine ρ ?_;exact Jf C (swp z0 q (fst+o) (fst+C)) sB ⟨s5,om,J⟩ om
theorem Xqv(hD:Dat w base (.slice A n c) ps)(hn:ps.length=n)(hmx:n<=140737488355328)(hC:CF w (Value.slice A n c).ownBlock fid first cap ps ds)(hai:ai=(a:Int))(hbi:bi=(b:Int))(hab:a<b)(hb:b<=n):
  Ret Tryz.prog 181 [.slice A n c,.int .i64 ai,.int .i64 bi,.func (.func fid) first cap] w λv w'=>∃ ps',DP w w' base A n c ps ps'/\Go.Sort.heapSort (ltP ds) ps.toArray a b=ps'.toArray:=by
 subst hai;subst hbi;refine Jz Tryz.func181 Tryz.ntmps181 rfl kr rfl ?_;refine ρ ?_;refine qn (b-a-1) 2 ?_;refine ρ ?_;refine Jt (fun (i:Nat) (q:List Pr)=>[(0,.slice A n c),(3,.func (.func fid) first cap),(8,.int .i64 (a:Int)),(9,.int .i64 0),(10,.int .i64 ((b:Int)-(a:Int))),(11,.int .i64 ((i:Int)-1))])
  (λi q w'=>DP w w' base A n c ps q/\i<=n/\Go.Sort.heapSort (ltP ds) ps.toArray a b=Go.Sort.heapPop (ltP ds) a (b-a) (Go.Sort.heapBuild (ltP ds) (b-a) a i q.toArray)) (λi _=>i) ((b-a-1) / 2+1) ps sO ⟨DP.start hD hn,om,rfl⟩ ?_
 rintro i q w1 ⟨H,hi,C⟩;refine ρ ?_;refine ci (λh=>?_) (λh=>?_)
 .have o:0<i:=by have:=oT h;omega
  refine ρ ?_;refine cl (Jsv (lo:=i-1) (hi:=b-a) (fst:=a) (loi:=(i:Int)-1) (hii:=(b:Int)-(a:Int)) H.d H.l hmx (hC.step H) om om rfl om om) ?_;rintro v w2 ⟨q2,H2,G⟩;have e1:i=(i-1)+1:=om
  rw[e1,Go.Sort.heapBuild,G]at C;refine ρ ?_;exact Jf (i-1) q2 sO ⟨H.after H2,om,C⟩ om
 have o:i=0:=by have:=oF h;omega
 rw[o,Go.Sort.heapBuild]at C;refine ρ ?_;refine Jt (fun (i:Nat) (q:List Pr)=>[(0,.slice A n c),(3,.func (.func fid) first cap),(8,.int .i64 (a:Int)),(9,.int .i64 0),(12,.int .i64 ((i:Int)-1))])
  (λi q w'=>DP w w' base A n c ps q/\i<=b-a/\Go.Sort.heapSort (ltP ds) ps.toArray a b=Go.Sort.heapPop (ltP ds) a i q.toArray) (λi _=>i) (b-a) q sO ⟨H,om,C⟩ ?_
 clear C;rintro i q w1 ⟨H,hi,C⟩;refine ρ ?_;refine ci (λh=>?_) (λh=>?_)
 .have o:0<i:=by have:=oT h;omega
  have J:a<n:=om
  have O:a+(i-1)<n:=om
  refine ρ ?_;refine drC 4 [0,1,2,3,4,5,6,7,8,9,12,13] [(0,10),(0,11),(0,14),(0,15),(0,16),(2,17),(2,18),(2,19)] kr ?_;have D:=H.drew;obtain⟨s1,s2,s3,⟨u,s4⟩,Z,s6⟩:=D.swap J O;refine ρp ?_;refine dix (a+(i-1)) D.rd O ?_;refine ρd ?_;refine dld (D.cell O) ?_;refine ρd ?_;refine dix (a) D.rd J ?_;refine ρd ?_;refine dld (D.cell J) ?_;refine ρd ?_;refine dix (a) D.rd J ?_;refine ρd ?_;refine Qj ?_;refine sto (D.cell J) s1 ?_ (hv:=D.one O);refine ρ ?_;refine Qs ?_;refine Qj ?_;refine ix (a+(i-1)) s2 O ?_;refine ρ ?_;refine Qs ?_;refine Qj ?_;refine sto s4 s3 ?_ (hv:=D.one J);refine ρ ?_;refine cl (Jsv (lo:=0) (hi:=i-1) (fst:=a) (loi:=0) (hii:=(i:Int)-1) Z.d Z.l hmx (hC.step Z) rfl om rfl om om) ?_;rintro v w2 ⟨q2,H2,G⟩;have e1:i=(i-1)+1:=om
  rw[e1,Go.Sort.heapPop,swz,G]at C;refine ρ ?_;exact Jf (i-1) q2 sO ⟨Z.after H2,om,C⟩ om
 have o:i=0:=by have:=oF h;omega
 rw[o,Go.Sort.heapPop]at C;refine ρ ?_;exact Kp ⟨q,H,C⟩
open Go.RowKit Pl Go.Wk
variable {cap first:Array Value}{fid:FuncId}{ai bi s:Int}{ds:List Bool}{ps q:List Pr}{a b base c e g n:Nat}{A:Option Addr}{w w0:World}
theorem zInt: Qm Tryz.prog 3=some (.int .i64 0):=kr
theorem zXor: Qm Tryz.prog 285=some (.int .u64 0):=kr
theorem Jhc(H:DP w0 w base A n c ps q)(hmx:n<=140737488355328)(hC:CF w0 (Value.slice A n c).ownBlock fid first cap ps ds)(hB:Blk w g 3 [.int .i64 s])(hg:w0.heap.size<=g)(ha:a<n)(hb:b<n):
  Ret Tryz.prog 219 [.slice A n c,.int .i64 (a:Int),.int .i64 (b:Int),.pointer (some ⟨g,0,none⟩),.func (.func fid) first cap] w λr w'=>∃ x y:Nat,∃ s':Int,r=.tuple #[.int .i64 (x:Int),.int .i64 (y:Int)]/\((x=a/\y=b)∨(x=b/\y=a))/\DP w0 w' base A n c ps q/\Blk w' g 3 [.int .i64 s']:=by
 refine Jz Tryz.func219 Tryz.ntmps219 rfl kr rfl ?_;refine ρ ?_;refine dr [(0,0),(0,1),(0,2),(0,3),(0,4),(0,5),(0,6),(0,7),(0,8),(1,9),(0,10)] kr ?_;have C:=H.drew;refine ρd ?_;refine ρd ?_;refine dix (b) C.rd hb ?_;refine ρd ?_;refine dld (C.cell hb) ?_;refine ρd ?_;refine dix (a) C.rd ha ?_;refine ρd ?_;refine dld (C.cell ha) ?_;refine ρd ?_;refine Vm (hC.call C hb ha) ?_;rintro r G ⟨J,rfl,u⟩;refine⟨u,?_⟩;have D:=C.ext u;refine ρd ?_;refine ρ ?_;have o:=(hB.ext (Ext.refl w).drew).ext u;refine ci (λh=>?_) (λh=>?_)
 .refine ρ ?_;refine ld (o.cell 0) ?_;refine ρ ?_;refine sto (o.cell 0) (o.frozen 0) ?_;refine ρ ?_;exact Vo ⟨b,a,_,rfl,.inr ⟨rfl,rfl⟩,D.box o rfl hg _,o.set 0 _⟩
 refine ρ ?_;exact Vo ⟨a,b,_,rfl,.inl ⟨rfl,rfl⟩,D,o⟩
theorem Qxb(H:DP w0 w base A n c ps q)(hmx:n<=140737488355328)(hC:CF w0 (Value.slice A n c).ownBlock fid first cap ps ds)(hB:Blk w g 3 [.int .i64 s])(hg:w0.heap.size<=g)(ha:a<n)(hb:b<n)(he:e<n):
  Ret Tryz.prog 204 [.slice A n c,.int .i64 (a:Int),.int .i64 (b:Int),.int .i64 (e:Int),.pointer (some ⟨g,0,none⟩),.func (.func fid) first cap] w λr w'=>∃ m:Nat,∃ s':Int,r=.int .i64 (m:Int)/\(m=a∨m=b∨m=e)/\DP w0 w' base A n c ps q/\Blk w' g 3 [.int .i64 s']:=by
 refine Jz Tryz.func204 Tryz.ntmps204 rfl kr rfl ?_;refine ρ ?_;refine cl (Jhc H hmx hC hB hg ha hb) ?_;rintro r w1 ⟨O,J,s1,rfl,e1,H1,C⟩;refine ρ ?_;refine cl (Jhc (a:=J) (b:=e) H1 hmx hC C hg om he) ?_;rintro r w2 ⟨G,e2,s2,rfl,e3,H2,u⟩;refine ρ ?_;refine cl (Jhc (a:=O) (b:=G) H2 hmx hC u hg om om) ?_;rintro r w3 ⟨a3,D,s3,rfl,e4,Z,o⟩;refine ρ ?_;exact Jj ⟨D,_,rfl,om,Z,o⟩
theorem Jhn(H:DP w0 w base A n c ps q)(hmx:n<=140737488355328)(hC:CF w0 (Value.slice A n c).ownBlock fid first cap ps ds)(hB:Blk w g 3 [.int .i64 s])(hg:w0.heap.size<=g)(hai:ai=(a:Int))(ha:0<a)(hb:a+1<n):
  Ret Tryz.prog 203 [.slice A n c,.int .i64 ai,.pointer (some ⟨g,0,none⟩),.func (.func fid) first cap] w λr w'=>∃ m:Nat,∃ s':Int,r=.int .i64 (m:Int)/\(m=a∨m+1=a∨m=a+1)/\DP w0 w' base A n c ps q/\Blk w' g 3 [.int .i64 s']:=by
 subst hai;refine Jz Tryz.func203 Tryz.ntmps203 rfl kr rfl ?_;refine ρ ?_;have C:a-1<n:=om
 have u:((a:Int)-1)=((a-1:Nat):Int):=om
 have D:((a:Int)+1)=((a+1:Nat):Int):=om
 rw[u,D];refine cl (Qxb H hmx hC hB hg C (by omega:a<n) hb) ?_;rintro r J ⟨m,O,rfl,u,G,o⟩;refine ρ ?_;exact Jj ⟨m,_,rfl,om,G,o⟩
theorem Xwb(hD:Dat w base (.slice A n c) ps)(hn:ps.length=n)(hmx:n<=140737488355328)(hC:CF w (Value.slice A n c).ownBlock fid first cap ps ds)(hai:ai=(a:Int))(hbi:bi=(b:Int))(hab:a+12<b)(hb:b<=n):
  Ret Tryz.prog 183 [.slice A n c,.int .i64 ai,.int .i64 bi,.func (.func fid) first cap] w λr w'=>∃ m:Nat,∃ z:Int,r=.tuple #[.int .i64 (m:Int),.int .i64 z]/\a<=m/\m<b/\DP w w' base A n c ps ps:=by
 subst hai;subst hbi;refine Jz Tryz.func183 Tryz.ntmps183 rfl kr rfl ?_;refine ρ ?_;refine alc zInt ?_;intro w1 g u o hB;have H1:=(DP.start hD hn).ext u;refine ρ ?_;refine qn (b-a) 4 ?_;refine ρ ?_;refine qn (b-a) 4 ?_;refine ρ ?_;refine qn (b-a) 4 ?_;refine ρ ?_;refine ct ?_ ?_
 .grind
 have hq:(b-a) / 4<=(b-a)/\3<=(b-a) / 4/\4*((b-a) / 4)<=b-a:=om
 generalize (b-a) / 4=l4 at hq ⊢
 refine ρ ?_;refine Jpt (fun (i j k:Nat)=>[(0,.slice A n c),(3,.func (.func fid) first cap),(11,.pointer (some ⟨g,0,none⟩)),(12,.int .i64 (i:Int)),(13,.int .i64 (j:Int)),(14,.int .i64 (k:Int))])
  (λi j k w'=>DP w w' base A n c ps ps/\(∃ s:Int,Blk w' g 3 [.int .i64 s])/\a<=i/\i<b/\a<=j/\j<b/\a<=k/\k<b) ?_ ?_
 .refine ci (λh=>?_) (λh=>?_)
  .have a1:=oT h;refine ρ ?_;refine cl (Jhn (a:=a+l4) (ai:=(a:Int)+(l4:Int)*1) H1 hmx hC hB o om om om) ?_;rintro r w2 ⟨i,s2,rfl,e2,H2,O⟩;refine ρ ?_;refine cl (Jhn (a:=a+l4*2) (ai:=(a:Int)+(l4:Int)*2) H2 hmx hC O o om om om) ?_;rintro r w3 ⟨j,s3,rfl,e3,H3,J⟩;refine ρ ?_;refine cl (Jhn (a:=a+l4*3) (ai:=(a:Int)+(l4:Int)*3) H3 hmx hC J o om om om) ?_;rintro r w4 ⟨k,s4,rfl,e4,H4,G⟩;refine ρ ?_;exact Jbd i j k sB ⟨H4,⟨_,G⟩,om,om,om,om,om,om⟩
  refine ρ ?_;exact Jbd (a+l4) (a+l4*2) (a+l4*3) sO ⟨H1,⟨_,hB⟩,om,om,om,om,om,om⟩
 rintro i j k w5 ⟨H5,⟨s5,D⟩,h1,h2,h3,h4,h5,h6⟩;refine ρ ?_;refine cl (Qxb H5 hmx hC D o (by omega:i<n) (by omega:j<n) (by omega:k<n)) ?_;rintro r w6 ⟨m,s6,rfl,e6,Z,C⟩;refine ρ ?_;refine ld (C.cell 0) ?_;refine ρ ?_;refine ci (λh=>?_) (λh=>?_)
 .refine ρ ?_;exact Vo ⟨m,_,rfl,om,om,Z⟩
 refine ρ ?_;refine ci (λh=>?_) (λh=>?_)
 .refine ρ ?_;exact Vo ⟨m,_,rfl,om,om,Z⟩
 refine ρ ?_;exact Vo ⟨m,_,rfl,om,om,Z⟩
open Go.RowKit Pl Go.Wk
variable {ai bi mi r:Int}{ps q:List Pr}{a b base c g m n:Nat}{A:Option Addr}{w w0:World}
theorem Qyv(op:BinOp)(x y:Int): 0<=bits op .u64 x y/\bits op .u64 x y<=18446744073709551615:=by
 unfold bits;rw[IntKind.wrap_u64];omega
theorem Qcw(H:DP w0 w base A n c ps q)(hB:Blk w g 285 [.int .u64 r])(hg:w0.heap.size<=g):
  Ret Tryz.prog 202 [.pointer (some ⟨g,0,none⟩)] w λv w'=>∃ r',v=.int .u64 r'/\0<=r'/\r'<=18446744073709551615/\DP w0 w' base A n c ps q/\Blk w' g 285 [.int .u64 r']:=by
 refine Jz Tryz.func202 Tryz.ntmps202 rfl kr rfl ?_;refine ρ ?_;refine dr [(0,0),(0,1),(0,2),(0,3),(0,4),(0,5),(0,6),(0,7),(0,8),(2,9)] kr ?_;have b0:=hB.ext (Ext.refl _).drew;have h0:=H.drew;refine ρd ?_;refine dld (b0.cell 0) ?_;refine ρd ?_;refine dld (b0.cell 0) ?_;refine ρd ?_;refine dshl ?_;refine ρd ?_;obtain⟨J,a2⟩:∃ z,z=bits .xor .u64 r (IntKind.u64.wrap (r*2^min (13:Int).toNat IntKind.u64.bits)):=⟨_,rfl⟩;refine dkv 10 (u:=.int .u64 J) (congrArg (Value.int .u64) a2.symm) ?_;refine Qj ?_;refine sto (b0.cell 0) (b0.frozen 0) ?_;refine ρ ?_;have H1:=h0.box b0 rfl hg (.int .u64 J);have a4:=b0.set 0 (.int .u64 J);refine dr [(0,0),(0,1),(0,2),(0,3),(0,4),(0,5),(0,6),(0,7),(0,8),(2,9)] kr ?_;have D:=a4.ext (Ext.refl _).drew;have h1:=H1.drew;refine ρd ?_;refine dld (D.cell 0) ?_;refine ρd ?_;refine dld (D.cell 0) ?_;refine ρd ?_;refine dshr ?_
 refine ρd ?_;obtain⟨G,a1⟩:∃ z,z=bits .xor .u64 J (J.fdiv (2^min (7:Int).toNat IntKind.u64.bits)):=⟨_,rfl⟩;refine dkv 19 (u:=.int .u64 G) (congrArg (Value.int .u64) a1.symm) ?_;refine Qj ?_;refine sto (D.cell 0) (D.frozen 0) ?_;refine ρ ?_;have H2:=h1.box D rfl hg (.int .u64 G);have a3:=D.set 0 (.int .u64 G);refine dr [(0,0),(0,1),(0,2),(0,3),(0,4),(0,5),(0,6),(0,7),(0,8),(2,9)] kr ?_;have C:=a3.ext (Ext.refl _).drew;have h2:=H2.drew;refine ρd ?_;refine dld (C.cell 0) ?_;refine ρd ?_;refine dld (C.cell 0) ?_;refine ρd ?_;refine dshl ?_;refine ρd ?_;obtain⟨Z,o⟩:∃ z,z=bits .xor .u64 G (IntKind.u64.wrap (G*2^min (17:Int).toNat IntKind.u64.bits)):=⟨_,rfl⟩;refine dkv 28 (u:=.int .u64 Z) (congrArg (Value.int .u64) o.symm) ?_;refine Qj ?_;refine sto (C.cell 0) (C.frozen 0) ?_;refine ρ ?_;have H3:=h2.box C rfl hg (.int .u64 Z);have O:=C.set 0 (.int .u64 Z);refine ld (O.cell 0) ?_
 refine ρ ?_;exact Jj ⟨Z,rfl,by rw[o];exact(Qyv _ _ _).1,by rw[o];exact(Qyv _ _ _).2,H3,O⟩
theorem Qsc(hmi:mi=(m:Int))(h0:0<m)(hm:m<=140737488355328)(w:World): Ret Tryz.prog 201 [.int .i64 mi] w λv w'=>∃ p:Nat,v=.int .u64 (p:Int)/\0<p/\p<=2*m/\w'=w:=by
 subst hmi;refine Jz Tryz.func201 Tryz.ntmps201 rfl kr rfl ?_;refine ρ ?_;refine kv 4 (u:=.int .u64 (m:Int)) (congrArg (Value.int .u64) (Gm om)) ?_;refine cl (Qyw m om w) ?_;rintro v w' ⟨rfl,rfl⟩;refine ρ ?_;refine Jzw rfl rfl om rfl ?_;obtain⟨J,G⟩:=Jhw (x:=m) om;have D:Jr m<=48:=Gk om;have C:2^Jr m=2*2^(Jr m-1):=by rw[<-Nat.pow_succ'];congr 1;omega
 have e:IntKind.u64.wrap (1*2^min ((Jr m:Nat):Int).toNat IntKind.u64.bits)=((2^Jr m:Nat):Int):=by
  have o:min ((Jr m:Nat):Int).toNat IntKind.u64.bits=Jr m:=by simp only[Int.toNat_natCast];exact Nat.min_eq_left (by show Jr m<=64;omega)
  rw[o,Int.one_mul];grind [Jr,Gm]
 refine kv 6 (congrArg (Value.int .u64) e) ?_;refine ρ ?_;exact Jj ⟨2^Jr m,rfl,Nat.pow_pos om,om,rfl⟩
theorem Xwq{fid:FuncId}{first cap:Array Value}{ds:List Bool}(hD:Dat w base (.slice A n c) ps)(hn:ps.length=n)(hmx:n<=140737488355328)(hC:CF w (Value.slice A n c).ownBlock fid first cap ps ds)(hai:ai=(a:Int))(hbi:bi=(b:Int))(hab:a+12<b)(hb:b<=n):
  Ret Tryz.prog 182 [.slice A n c,.int .i64 ai,.int .i64 bi,.func (.func fid) first cap] w λv w'=>∃ ps',DP w w' base A n c ps ps'/\Seg z0 a b ps ps':=by
 subst hai;subst hbi;refine Jz Tryz.func182 Tryz.ntmps182 rfl kr rfl ?_;refine ρ ?_;refine ct ?_ ?_
 .grind
 refine ρ ?_;refine alc zXor ?_;intro w1 g a1 hg hB;have H1:=(DP.start hD hn).ext a1;refine ρ ?_;refine sto (hB.cell 0) (hB.frozen 0) ?_;have H2:=H1.box hB rfl hg (.int .u64 (IntKind.u64.wrap ((b:Int)-(a:Int))));have a7:=hB.set 0 (.int .u64 (IntKind.u64.wrap ((b:Int)-(a:Int))));refine ρ ?_;refine cl (Qsc (m:=b-a) (mi:=(b:Int)-(a:Int)) om om om _) ?_;rintro v w' ⟨D,rfl,ac,ab,rfl⟩;refine ρ ?_;refine qn (b-a) 4 ?_;refine ρ ?_;have hq:(b-a) / 4<=(b-a)/\3<=(b-a) / 4/\4*((b-a) / 4)<=b-a:=om
 refine Jt (fun (idx:Nat) (q:List Pr)=>[(0,.slice A n c),(1,.int .i64 (a:Int)),(8,.int .i64 ((b:Int)-(a:Int))),(9,.pointer (some ⟨g,0,none⟩)),(10,.int .u64 (D:Int)),(11,.int .i64 (idx:Int))])
  (λidx q w'=>DP w w' base A n c ps q/\(∃ r:Int,Blk w' g 285 [.int .u64 r])/\a<=idx/\idx<=n/\Seg z0 a b ps q) (λidx _=>n-idx) (a+((b-a) / 4)*2-1) ps sO ⟨H2,⟨_,a7⟩,om,om,Seg.refl _ _ _⟩ ?_
 rintro idx q w3 ⟨H3,⟨r3,a6⟩,ae,hi,O⟩;refine ρ ?_;refine qn (b-a) 4 ?_;refine ρ ?_;refine ci (λh=>?_) (λh=>?_)
 .have a9:idx<=a+((b-a) / 4)*2+1:=by have:=oT h;omega
  refine ρ ?_;refine cl (Qcw H3 a6 hg) ?_;rintro v w4 ⟨r4,rfl,a2,aa,H4,Z⟩;refine ρ ?_;have ho:∃ o:Nat,bits .and .u64 r4 (IntKind.u64.wrap ((D:Int)-1))=(o:Int)/\o<2*(b-a):=by
   obtain⟨r,rfl⟩:=Int.eq_ofNat_of_zero_le a2;have e:IntKind.u64.wrap ((D:Int)-1)=((D-1:Nat):Int):=by rw[Gm om];omega
   rw[e];refine⟨r &&& (D-1),bits_and_u64_nat r (D-1) om om,?_⟩;grind [Nat.and_le_right]
  obtain⟨o,a3,ad⟩:=ho;refine Zw (fun (o:Nat)=>[(0,.slice A n c),(1,.int .i64 (a:Int)),(8,.int .i64 ((b:Int)-(a:Int))),(9,.pointer (some ⟨g,0,none⟩)),(10,.int .u64 (D:Int)),(11,.int .i64 (idx:Int)),(12,.int .i64 (o:Int))]) (λo w'=>DP w w' base A n c ps q/\Blk w' g 285 [.int .u64 r4]/\o<b-a) ?_ ?_
  .have a8:IntKind.i64.wrap (bits .and .u64 r4 (IntKind.u64.wrap ((D:Int)-1)))=(o:Int):=by rw[a3];exact Jqf om
   rw[a8];refine ci (λh=>?_) (λh=>?_)
   .have h1:=oT h;refine ρ ?_;exact Jb (o-(b-a)) sO ⟨H4,Z,om⟩
   have h1:=oF h;refine ρ ?_;exact Jb o sB ⟨H4,Z,om⟩
  rintro o w5 ⟨H5,a5,ho⟩;have G:idx<n:=om
  have J:a+o<n:=om
  refine ρ ?_;refine drC 4 [0,1,2,3,4,5,6,7,8,9,12,13] [(0,10),(0,11),(0,14),(0,15),(0,16),(2,17),(2,18),(2,19)] kr ?_;have C:=H5.drew;obtain⟨s1,s2,s3,⟨u,s4⟩,s5,s6⟩:=C.swap G J;refine ρp ?_;refine dix (a+o) C.rd J ?_;refine ρd ?_;refine dld (C.cell J) ?_;refine ρd ?_;refine dix (idx) C.rd G ?_;refine ρd ?_;refine dld (C.cell G) ?_;refine ρd ?_;refine dix (idx) C.rd G ?_;refine ρd ?_;refine Qj ?_;refine sto (C.cell G) s1 ?_ (hv:=C.one J);refine ρ ?_;refine Qs ?_;refine Qj ?_;refine ix (a+o) s2 J ?_;refine ρ ?_;refine Qs ?_;refine Qj ?_;refine sto s4 s3 ?_ (hv:=C.one G);refine ρ ?_;have b5:=a5.ext (Ext.refl _).drew;have a4:=b5.grown s6 (b5.ne_own C.d.1 rfl);exact Jf (idx+1) (swp z0 q idx (a+o)) sO ⟨s5,⟨_,a4⟩,om,om,O.trans (Seg.swp om om om om (by rw[H5.l];exact hb))⟩ om
 refine ρ ?_;exact Kp ⟨q,H3,O⟩
open Go.RowKit Pl Go.Wk
variable {cap first:Array Value}{fid:FuncId}{ai bi pvi:Int}{ds:List Bool}{ps:List Pr}{a b base c i0 j0 m n:Nat}{A:Option Addr}{w:World}
section
variable {ds:List Bool} {q:List Pr} {P:Pr->Bool} {i j:Nat}
theorem suT(h:(decide (i<=j) && P (q.getD i z0))=true): Go.Sort.scanUp P q.toArray j i=Go.Sort.scanUp P q.toArray j (i+1):=by
 rw[Go.Sort.scanUp,az,if_pos h]
theorem suF(h:(decide (i<=j) && P (q.getD i z0))=false): Go.Sort.scanUp P q.toArray j i=i:=by
 rw[Go.Sort.scanUp,az,if_neg (by rw[h];decide)]
theorem sdT(hi:1<=i)(h:(decide (i<=j) && P (q.getD j z0))=true): Go.Sort.scanDown P q.toArray i j=Go.Sort.scanDown P q.toArray i (j-1):=by
 cases j with
 | zero=>simp at h;omega
 | succ j=>rw[Go.Sort.scanDown,az,if_pos h];rfl
theorem sdF(h:(decide (i<=j) && P (q.getD j z0))=false): Go.Sort.scanDown P q.toArray i j=j:=by
 cases j with
 | zero=>rfl
 | succ j=>rw[Go.Sort.scanDown,az,if_neg (by rw[h];decide)]
theorem Qpn(hU:Go.Sort.scanUp (λx=>!ltP ds (q.getD a z0) x) q.toArray j0 i0=i)(hN:Go.Sort.scanDown (λx=>ltP ds (q.getD a z0) x) q.toArray i j0=j)(h1:i0<=i)(h2:j<=j0):
  Go.Sort.partEqLoop (ltP ds) a i0 j0 q.toArray=if i > j then(i,q.toArray) else Go.Sort.partEqLoop (ltP ds) a (i+1) (j-1) (swp z0 q i j).toArray:=by
 rw[Go.Sort.partEqLoop];grind [az,swz]
theorem partZ(hU:Go.Sort.scanUp (λx=>ltP ds x (q.getD a z0)) q.toArray j0 i0=i)(hN:Go.Sort.scanDown (λx=>!ltP ds x (q.getD a z0)) q.toArray i j0=j)(h1:i0<=i)(h2:j<=j0):
  Go.Sort.partLoop (ltP ds) a i0 j0 q.toArray=if i > j then(j,q.toArray) else Go.Sort.partLoop (ltP ds) a (i+1) (j-1) (swp z0 q i j).toArray:=by
 rw[Go.Sort.partLoop];grind [az,swz]
theorem Qpl{pv:Nat}(hq:swp z0 ps a pv=q)(hU:Go.Sort.scanUp (λx=>ltP ds x (q.getD a z0)) q.toArray (b-1) (a+1)=i)(hN:Go.Sort.scanDown (λx=>!ltP ds x (q.getD a z0)) q.toArray i (b-1)=j):
  Go.Sort.partition (ltP ds) ps.toArray a b pv=if i > j then(j,true,(swp z0 q j a).toArray) else((Go.Sort.partLoop (ltP ds) a (i+1) (j-1) (swp z0 q i j).toArray).1,false,Go.Sort.swp (Go.Sort.partLoop (ltP ds) a (i+1) (j-1) (swp z0 q i j).toArray).2 (Go.Sort.partLoop (ltP ds) a (i+1) (j-1) (swp z0 q i j).toArray).1 a):=by
 unfold Go.Sort.partition;grind [swz,az]
theorem ssT(h:(decide (i<b) && !ltP ds (q.getD i z0) (q.getD (i-1) z0))=true): Go.Sort.scanSorted (ltP ds) q.toArray b i=Go.Sort.scanSorted (ltP ds) q.toArray b (i+1):=by
 rw[Go.Sort.scanSorted,az,az,if_pos h]
theorem ssF(h:(decide (i<b) && !ltP ds (q.getD i z0) (q.getD (i-1) z0))=false): Go.Sort.scanSorted (ltP ds) q.toArray b i=i:=by
 rw[Go.Sort.scanSorted,az,az,if_neg (by rw[h];decide)]
theorem Qph{s:Nat}(hS:Go.Sort.scanSorted (ltP ds) q.toArray b i0=i):
  Go.Sort.partialIns (ltP ds) a b (s+1) i0 q.toArray=if i=b then(q.toArray,true) else if b-a<50 then(q.toArray,false) else
   Go.Sort.partialIns (ltP ds) a b s i (if b-i ≥ 2 then Go.Sort.shiftUp (ltP ds) b (i+1) (if i-a ≥ 2 then Go.Sort.shiftDown (ltP ds) (i-1) (swp z0 q i (i-1)).toArray else(swp z0 q i (i-1)).toArray) else(if i-a ≥ 2 then Go.Sort.shiftDown (ltP ds) (i-1) (swp z0 q i (i-1)).toArray else(swp z0 q i (i-1)).toArray)):=by
 rw[Go.Sort.partialIns];simp only[hS,swz]
theorem shd(h:1<=m): Go.Sort.shiftDown (ltP ds) m q.toArray=if(!ltP ds (q.getD m z0) (q.getD (m-1) z0))=true then q.toArray else Go.Sort.shiftDown (ltP ds) (m-1) (swp z0 q m (m-1)).toArray:=by
 cases m with
 | zero=>omega
 | succ m=>rw[Go.Sort.shiftDown,az,az,swz];rfl
theorem shu0{d:Array Pr}(h:¬ m<b): Go.Sort.shiftUp (ltP ds) b m d=d:=by rw[Go.Sort.shiftUp,if_neg h]
theorem shu(h:m<b): Go.Sort.shiftUp (ltP ds) b m q.toArray=if(!ltP ds (q.getD m z0) (q.getD (m-1) z0))=true then q.toArray else Go.Sort.shiftUp (ltP ds) b (m+1) (swp z0 q m (m-1)).toArray:=by
 rw[Go.Sort.shiftUp,if_pos h,az,az,swz]
end
theorem Qpm(hD:Dat w base (.slice A n c) ps)(hn:ps.length=n)(hmx:n<=140737488355328)(hC:CF w (Value.slice A n c).ownBlock fid first cap ps ds){pv:Nat}(hai:ai=(a:Int))(hbi:bi=(b:Int))(hpvi:pvi=(pv:Int))(hab:a<b)(hb:b<=n)(hp0:a<=pv)(hp1:pv<b):
  Ret Tryz.prog 186 [.slice A n c,.int .i64 ai,.int .i64 bi,.int .i64 pvi,.func (.func fid) first cap] w λv w'=>∃ ps',DP w w' base A n c ps ps'/\∃ m:Nat,v=.int .i64 (m:Int)/\a<m/\m<=b/\Go.Sort.partitionEqual (ltP ds) ps.toArray a b pv=(m,ps'.toArray):=by
 subst hai;subst hbi;subst hpvi;refine Jz Tryz.func186 Tryz.ntmps186 rfl kr rfl ?_;refine ρ ?_;have H:=DP.start hD hn;have la:a<n:=om
 have lp:pv<n:=om
 refine drC 4 [0,1,2,3,4,5,8,9] [(0,6),(0,7),(0,10),(0,11),(0,12),(2,13),(2,14),(2,15)] kr ?_;have Z:=H.drew;obtain⟨s1,s2,s3,⟨u,s4⟩,s5,s6⟩:=Z.swap la lp;refine ρp ?_;refine dix (pv) Z.rd lp ?_;refine ρd ?_;refine dld (Z.cell lp) ?_;refine ρd ?_;refine dix (a) Z.rd la ?_;refine ρd ?_;refine dld (Z.cell la) ?_;refine ρd ?_;refine dix (a) Z.rd la ?_;refine ρd ?_;refine Qj ?_;refine sto (Z.cell la) s1 ?_ (hv:=Z.one lp);refine ρ ?_;refine Qs ?_;refine Qj ?_;refine ix (pv) s2 lp ?_;refine ρ ?_;refine Qs ?_;refine Qj ?_;refine sto s4 s3 ?_ (hv:=Z.one la);refine ρ ?_;refine Xm (fun (i j:Nat) (q:List Pr)=>[(0,.slice A n c),(1,.int .i64 (a:Int)),(2,.int .i64 (b:Int)),(4,.func (.func fid) first cap),(11,.int .i64 (i:Int)),(12,.int .i64 (j:Int))]) (λi j q w'=>DP w w' base A n c ps q/\Go.Sort.partitionEqual (ltP ds) ps.toArray a b pv=Go.Sort.partEqLoop (ltP ds) a i j q.toArray/\a<i/\i<=b/\a<=j/\j<b) (λi j _=>b+j-i) (a+1) (b-1) _ sO ⟨s5,by unfold Go.Sort.partitionEqual;rw[swz],om⟩ ?_
 clear s1 s2 s3 s4 s5 s6 u Z H;rintro i0 G q w1 ⟨H,hR,a8⟩;refine ρ ?_;refine Qf (fun (i:Nat)=>[(0,.slice A n c),(1,.int .i64 (a:Int)),(2,.int .i64 (b:Int)),(4,.func (.func fid) first cap),(12,.int .i64 (G:Int)),(11,.int .i64 (i:Int))]) (λi w'=>DP w w' base A n c ps q/\i0<=i/\a<i/\i<=b/\Go.Sort.scanUp (λx=>!ltP ds (q.getD a z0) x) q.toArray G i0=Go.Sort.scanUp (λx=>!ltP ds (q.getD a z0) x) q.toArray G i) (λi=>b-i) i0 sO ⟨H,om⟩ ?_;rintro i wS ⟨HS,a7⟩;refine ρ ?_;refine Zw (fun (t:Bool)=>[(0,.slice A n c),(1,.int .i64 (a:Int)),(2,.int .i64 (b:Int)),(4,.func (.func fid) first cap),(12,.int .i64 (G:Int)),(11,.int .i64 (i:Int)),(47,.bool t)]) (λt w'=>DP w w' base A n c ps q/\(t=true->i<=G)/\t=(decide (i<=G) && (λx=>!ltP ds (q.getD a z0) x) (q.getD i z0))) ?_ ?_
 .skip
  refine dr [(0,0),(0,1),(0,2),(0,3),(0,4),(0,5),(0,6),(0,7),(0,8),(0,9),(0,10),(0,11),(0,12),(1,13),(0,14),(0,15),(0,16)] kr ?_;have o:=HS.drew;refine ρd ?_;refine dki 34 (λh=>?_) (λh=>?_)
  .have hT:i<=G:=by have:=oT h;omega
   have lx:a<n:=om
   have ly:i<n:=om
   refine ρd ?_;refine dix (a) o.rd lx ?_;refine ρd ?_;refine dld (o.cell lx) ?_;refine ρd ?_;refine dix (i) o.rd ly ?_;refine ρd ?_;refine dld (o.cell ly) ?_;refine ρd ?_;refine Vm (hC.callV o lx ly) ?_;rintro r a4 ⟨rfl,D⟩;refine⟨D,?_⟩;have HT:=o.ext D;refine ρd ?_;refine ρ ?_;exact Jb _ sB ⟨HT,λ_=>hT,by rw[decide_eq_true hT];rfl⟩
  refine ρd ?_;refine ρ ?_;exact Jb false sB ⟨o,(λe=>by cases e),by grind⟩
 rintro t a3 ⟨a2,O,J⟩;refine ci (λh=>?_) (λh=>?_)
 .have:=O h;have a5:=suT (P:=(λx=>!ltP ds (q.getD a z0) x)) (J.symm.trans h);refine ρ ?_;exact Qw (i+1) sO ⟨a2,om⟩ om
 have hU:Go.Sort.scanUp (λx=>!ltP ds (q.getD a z0) x) q.toArray G i0=i:=by grind [suF,ltP,z0]
 clear O HS h J;refine ρ ?_;refine Qf (fun (j:Nat)=>[(0,.slice A n c),(1,.int .i64 (a:Int)),(2,.int .i64 (b:Int)),(4,.func (.func fid) first cap),(11,.int .i64 (i:Int)),(12,.int .i64 (j:Int))]) (λj w'=>DP w w' base A n c ps q/\j<=G/\a<=j/\j<b/\Go.Sort.scanDown (λx=>ltP ds (q.getD a z0) x) q.toArray i G=Go.Sort.scanDown (λx=>ltP ds (q.getD a z0) x) q.toArray i j) (λj=>j) G sO ⟨a2,om⟩ ?_;rintro j wS ⟨HS,a6⟩;refine ρ ?_;refine Zw (fun (t:Bool)=>[(0,.slice A n c),(1,.int .i64 (a:Int)),(2,.int .i64 (b:Int)),(4,.func (.func fid) first cap),(11,.int .i64 (i:Int)),(12,.int .i64 (j:Int)),(65,.bool t)]) (λt w'=>DP w w' base A n c ps q/\(t=true->i<=j)/\t=(decide (i<=j) && (λx=>ltP ds (q.getD a z0) x) (q.getD j z0))) ?_ ?_
 .skip
  refine dr [(0,0),(0,1),(0,2),(0,3),(0,4),(0,5),(0,6),(0,7),(0,8),(0,9),(0,10),(0,11),(0,12),(1,13),(0,14),(0,15)] kr ?_;have o:=HS.drew;refine ρd ?_;refine dki 53 (λh=>?_) (λh=>?_)
  .have hT:i<=j:=by have:=oT h;omega
   have lx:a<n:=om
   have ly:j<n:=om
   refine ρd ?_;refine dix (a) o.rd lx ?_;refine ρd ?_;refine dld (o.cell lx) ?_;refine ρd ?_;refine dix (j) o.rd ly ?_;refine ρd ?_;refine dld (o.cell ly) ?_;refine ρd ?_;refine Vm (hC.callV o lx ly) ?_;rintro r a4 ⟨rfl,D⟩;refine⟨D,?_⟩;have HT:=o.ext D;refine ρd ?_;refine ρ ?_;exact Jb _ sB ⟨HT,λ_=>hT,by rw[decide_eq_true hT];rfl⟩
  refine ρd ?_;refine ρ ?_;exact Jb false sB ⟨o,(λe=>by cases e),by grind⟩
 rintro t a3 ⟨a1,O,J⟩;refine ci (λh=>?_) (λh=>?_)
 .have:=O h;have a5:=sdT (P:=(λx=>ltP ds (q.getD a z0) x)) (show 1<=i by omega) (J.symm.trans h);refine ρ ?_;exact Qw (j-1) sO ⟨a1,om⟩ om
 have hN:Go.Sort.scanDown (λx=>ltP ds (q.getD a z0) x) q.toArray i G=j:=by grind [sdF,ltP,z0]
 clear O HS h J;refine ρ ?_;rw[Qpn hU hN a7.1 a6.1]at hR;refine ci (λh=>?_) (λh=>?_)
 .rw[if_pos (show i > j by grind)]at hR;refine ρ ?_;exact Jj ⟨q,a1,i,rfl,om,om,hR⟩
 have hT:i<=j:=by grind
 rw[if_neg (show¬ i > j by omega)]at hR;have li:i<n:=om
 have lj:j<n:=om
 refine ρ ?_;refine drC 4 [0,1,2,3,4,5,8,9] [(0,6),(0,7),(0,10),(0,11),(0,12),(2,13),(2,14),(2,15)] kr ?_;have C:=a1.drew;obtain⟨s1,s2,s3,⟨u,s4⟩,s5,s6⟩:=C.swap li lj;refine ρp ?_;refine dix (j) C.rd lj ?_;refine ρd ?_;refine dld (C.cell lj) ?_;refine ρd ?_;refine dix (i) C.rd li ?_;refine ρd ?_;refine dld (C.cell li) ?_;refine ρd ?_;refine dix (i) C.rd li ?_;refine ρd ?_;refine Qj ?_;refine sto (C.cell li) s1 ?_ (hv:=C.one lj);refine ρ ?_;refine Qs ?_;refine Qj ?_;refine ix (j) s2 lj ?_;refine ρ ?_;refine Qs ?_;refine Qj ?_;refine sto s4 s3 ?_ (hv:=C.one li);refine ρ ?_;exact Qp (i+1) (j-1) _ sO ⟨s5,hR,om⟩ om
theorem Qpk(hD:Dat w base (.slice A n c) ps)(hn:ps.length=n)(hmx:n<=140737488355328)(hC:CF w (Value.slice A n c).ownBlock fid first cap ps ds){pv:Nat}(hai:ai=(a:Int))(hbi:bi=(b:Int))(hpvi:pvi=(pv:Int))(hab:a<b)(hb:b<=n)(hp0:a<=pv)(hp1:pv<b):
  Ret Tryz.prog 187 [.slice A n c,.int .i64 ai,.int .i64 bi,.int .i64 pvi,.func (.func fid) first cap] w λv w'=>∃ ps',DP w w' base A n c ps ps'/\∃(m:Nat) (t:Bool),v=.tuple #[.int .i64 (m:Int),.bool t]/\a<=m/\m<b/\Go.Sort.partition (ltP ds) ps.toArray a b pv=(m,t,ps'.toArray):=by
 subst hai;subst hbi;subst hpvi;refine Jz Tryz.func187 Tryz.ntmps187 rfl kr rfl ?_;refine ρ ?_;have H:=DP.start hD hn;have la:a<n:=om
 have lp:pv<n:=om
 refine drC 4 [0,1,2,3,4,5,8,9] [(0,6),(0,7),(0,10),(0,11),(0,12),(2,13),(2,14),(2,15)] kr ?_;have Hd:=H.drew;obtain⟨s1,s2,s3,⟨u,s4⟩,s5,s6⟩:=Hd.swap la lp;refine ρp ?_;refine dix (pv) Hd.rd lp ?_;refine ρd ?_;refine dld (Hd.cell lp) ?_;refine ρd ?_;refine dix (a) Hd.rd la ?_;refine ρd ?_;refine dld (Hd.cell la) ?_;refine ρd ?_;refine dix (a) Hd.rd la ?_;refine ρd ?_;refine Qj ?_;refine sto (Hd.cell la) s1 ?_ (hv:=Hd.one lp);refine ρ ?_;refine Qs ?_;refine Qj ?_;refine ix (pv) s2 lp ?_;refine ρ ?_;refine Qs ?_;refine Qj ?_;refine sto s4 s3 ?_ (hv:=Hd.one la);refine ρ ?_;generalize hq:swp z0 ps a pv=q at s5
 have H5:=s5;clear s1 s2 s3 s4 s5 s6 u Hd H;obtain⟨i0,aa⟩:∃ i0:Nat,i0=a+1:=⟨_,rfl⟩;obtain⟨G,a7⟩:∃ G:Nat,G=b-1:=⟨_,rfl⟩;refine Qf (fun (i:Nat)=>[(0,.slice A n c),(1,.int .i64 (a:Int)),(2,.int .i64 (b:Int)),(4,.func (.func fid) first cap),(13,.int .i64 (G:Int)),(12,.int .i64 (i:Int))]) (λi w'=>DP w w' base A n c ps q/\i0<=i/\a<i/\i<=b/\Go.Sort.scanUp (λx=>ltP ds x (q.getD a z0)) q.toArray G i0=Go.Sort.scanUp (λx=>ltP ds x (q.getD a z0)) q.toArray G i) (λi=>b-i) i0 sO ⟨H5,om⟩ ?_;rintro i wS ⟨HS,a9⟩;refine ρ ?_;refine Zw (fun (t:Bool)=>[(0,.slice A n c),(1,.int .i64 (a:Int)),(2,.int .i64 (b:Int)),(4,.func (.func fid) first cap),(13,.int .i64 (G:Int)),(12,.int .i64 (i:Int)),(47,.bool t)]) (λt w'=>DP w w' base A n c ps q/\(t=true->i<=G)/\t=(decide (i<=G) && (λx=>ltP ds x (q.getD a z0)) (q.getD i z0))) ?_ ?_
 .skip
  refine dr [(0,0),(0,1),(0,2),(0,3),(0,4),(0,5),(0,6),(0,7),(0,8),(0,9),(0,10),(0,11),(0,12),(1,13),(0,14),(0,15)] kr ?_;have C:=HS.drew;refine ρd ?_;refine dki 35 (λh=>?_) (λh=>?_)
  .have hT:i<=G:=by have:=oT h;omega
   have lx:i<n:=om
   have ly:a<n:=om
   refine ρd ?_;refine dix (i) C.rd lx ?_;refine ρd ?_;refine dld (C.cell lx) ?_;refine ρd ?_;refine dix (a) C.rd ly ?_;refine ρd ?_;refine dld (C.cell ly) ?_;refine ρd ?_;refine Vm (hC.callV C lx ly) ?_;rintro r a5 ⟨rfl,D⟩;refine⟨D,?_⟩;have HT:=C.ext D;refine ρd ?_;refine ρ ?_;exact Jb _ sB ⟨HT,λ_=>hT,by rw[decide_eq_true hT];rfl⟩
  refine ρd ?_;refine ρ ?_;exact Jb false sB ⟨C,(λe=>by cases e),by grind⟩
 rintro t a4 ⟨a3,a1,Z⟩;refine ci (λh=>?_) (λh=>?_)
 .have:=a1 h;have a6:=suT (P:=(λx=>ltP ds x (q.getD a z0))) (Z.symm.trans h);refine ρ ?_;exact Qw (i+1) sO ⟨a3,om⟩ om
 have hU:Go.Sort.scanUp (λx=>ltP ds x (q.getD a z0)) q.toArray G i0=i:=by grind [suF,ltP,z0]
 clear a1 HS h Z;refine ρ ?_;refine Qf (fun (j:Nat)=>[(0,.slice A n c),(1,.int .i64 (a:Int)),(2,.int .i64 (b:Int)),(4,.func (.func fid) first cap),(12,.int .i64 (i:Int)),(13,.int .i64 (j:Int))]) (λj w'=>DP w w' base A n c ps q/\j<=G/\a<=j/\j<b/\Go.Sort.scanDown (λx=>!ltP ds x (q.getD a z0)) q.toArray i G=Go.Sort.scanDown (λx=>!ltP ds x (q.getD a z0)) q.toArray i j) (λj=>j) G sO ⟨a3,om⟩ ?_;rintro j wS ⟨HS,a8⟩;refine ρ ?_;refine Zw (fun (t:Bool)=>[(0,.slice A n c),(1,.int .i64 (a:Int)),(2,.int .i64 (b:Int)),(4,.func (.func fid) first cap),(12,.int .i64 (i:Int)),(13,.int .i64 (j:Int)),(66,.bool t)]) (λt w'=>DP w w' base A n c ps q/\(t=true->i<=j)/\t=(decide (i<=j) && (λx=>!ltP ds x (q.getD a z0)) (q.getD j z0))) ?_ ?_
 .skip
  refine dr [(0,0),(0,1),(0,2),(0,3),(0,4),(0,5),(0,6),(0,7),(0,8),(0,9),(0,10),(0,11),(0,12),(1,13),(0,14),(0,15),(0,16)] kr ?_;have C:=HS.drew;refine ρd ?_;refine dki 53 (λh=>?_) (λh=>?_)
  .have hT:i<=j:=by have:=oT h;omega
   have lx:j<n:=om
   have ly:a<n:=om
   refine ρd ?_;refine dix (j) C.rd lx ?_;refine ρd ?_;refine dld (C.cell lx) ?_;refine ρd ?_;refine dix (a) C.rd ly ?_;refine ρd ?_;refine dld (C.cell ly) ?_;refine ρd ?_;refine Vm (hC.callV C lx ly) ?_;rintro r a5 ⟨rfl,D⟩;refine⟨D,?_⟩;have HT:=C.ext D;refine ρd ?_;refine ρ ?_;exact Jb _ sB ⟨HT,λ_=>hT,by rw[decide_eq_true hT];rfl⟩
  refine ρd ?_;refine ρ ?_;exact Jb false sB ⟨C,(λe=>by cases e),by grind⟩
 rintro t a4 ⟨a2,a1,Z⟩;refine ci (λh=>?_) (λh=>?_)
 .have:=a1 h;have a6:=sdT (P:=(λx=>!ltP ds x (q.getD a z0))) (show 1<=i by omega) (Z.symm.trans h);refine ρ ?_;exact Qw (j-1) sO ⟨a2,om⟩ om
 have hN:Go.Sort.scanDown (λx=>!ltP ds x (q.getD a z0)) q.toArray i G=j:=by grind [sdF,ltP,z0]
 clear a1 HS h Z;refine ρ ?_;have J:a<n:=om
 have O:j<n:=om
 have hR:=Qpl hq (a7 ▸ aa ▸ hU) (a7 ▸ hN);refine ci (λh=>?_) (λh=>?_)
 .rw[if_pos (show i > j by grind)]at hR;refine ρ ?_;refine drC 4 [0,1,2,3,4,5,8,9] [(0,6),(0,7),(0,10),(0,11),(0,12),(2,13),(2,14),(2,15)] kr ?_;have o:=a2.drew;obtain⟨s1,s2,s3,⟨u,s4⟩,s5,s6⟩:=o.swap O J;refine ρp ?_;refine dix (a) o.rd J ?_;refine ρd ?_;refine dld (o.cell J) ?_;refine ρd ?_;refine dix (j) o.rd O ?_;refine ρd ?_;refine dld (o.cell O) ?_;refine ρd ?_;refine dix (j) o.rd O ?_;refine ρd ?_;refine Qj ?_;refine sto (o.cell O) s1 ?_ (hv:=o.one J);refine ρ ?_;refine Qs ?_;refine Qj ?_;refine ix (a) s2 J ?_;refine ρ ?_;refine Qs ?_;refine Qj ?_;refine sto s4 s3 ?_ (hv:=o.one O);refine ρ ?_;exact Vo ⟨_,s5,j,true,rfl,om,om,hR⟩
 have hT:i<=j:=by grind
 rw[if_neg (show¬ i > j by omega)]at hR;have li:i<n:=om
 refine ρ ?_;refine drC 4 [0,1,2,3,4,5,8,9] [(0,6),(0,7),(0,10),(0,11),(0,12),(2,13),(2,14),(2,15)] kr ?_;have o:=a2.drew;obtain⟨s1,s2,s3,⟨u,s4⟩,s5,s6⟩:=o.swap li O;refine ρp ?_;refine dix (j) o.rd O ?_;refine ρd ?_;refine dld (o.cell O) ?_;refine ρd ?_;refine dix (i) o.rd li ?_;refine ρd ?_;refine dld (o.cell li) ?_;refine ρd ?_;refine dix (i) o.rd li ?_;refine ρd ?_;refine Qj ?_;refine sto (o.cell li) s1 ?_ (hv:=o.one O);refine ρ ?_;refine Qs ?_;refine Qj ?_;refine ix (j) s2 O ?_;refine ρ ?_;refine Qs ?_;refine Qj ?_;refine sto s4 s3 ?_ (hv:=o.one li);refine ρ ?_;refine Xm (fun (i j:Nat) (q:List Pr)=>[(0,.slice A n c),(1,.int .i64 (a:Int)),(2,.int .i64 (b:Int)),(4,.func (.func fid) first cap),(12,.int .i64 (i:Int)),(13,.int .i64 (j:Int))]) (λi j q w'=>DP w w' base A n c ps q/\Go.Sort.partition (ltP ds) ps.toArray a b pv=((Go.Sort.partLoop (ltP ds) a i j q.toArray).1,false,Go.Sort.swp (Go.Sort.partLoop (ltP ds) a i j q.toArray).2 (Go.Sort.partLoop (ltP ds) a i j q.toArray).1 a)/\a<i/\i<=b/\a<=j/\j<b) (λi j _=>b+j-i) (i+1) (j-1) _ sO ⟨s5,hR,om⟩ ?_
 clear s1 s2 s3 s4 s5 s6 u o a2 a3 a9 a8 J O li hT hR hU hN hq;clear aa a7;clear h q i0 G i j H5;rintro i0 G q w1 ⟨H,hR,ab⟩;refine ρ ?_;refine Qf (fun (i:Nat)=>[(0,.slice A n c),(1,.int .i64 (a:Int)),(2,.int .i64 (b:Int)),(4,.func (.func fid) first cap),(13,.int .i64 (G:Int)),(12,.int .i64 (i:Int))]) (λi w'=>DP w w' base A n c ps q/\i0<=i/\a<i/\i<=b/\Go.Sort.scanUp (λx=>ltP ds x (q.getD a z0)) q.toArray G i0=Go.Sort.scanUp (λx=>ltP ds x (q.getD a z0)) q.toArray G i) (λi=>b-i) i0 sO ⟨H,om⟩ ?_;rintro i wS ⟨HS,a9⟩;refine ρ ?_;refine Zw (fun (t:Bool)=>[(0,.slice A n c),(1,.int .i64 (a:Int)),(2,.int .i64 (b:Int)),(4,.func (.func fid) first cap),(13,.int .i64 (G:Int)),(12,.int .i64 (i:Int)),(120,.bool t)]) (λt w'=>DP w w' base A n c ps q/\(t=true->i<=G)/\t=(decide (i<=G) && (λx=>ltP ds x (q.getD a z0)) (q.getD i z0))) ?_ ?_
 .skip
  refine dr [(0,0),(0,1),(0,2),(0,3),(0,4),(0,5),(0,6),(0,7),(0,8),(0,9),(0,10),(0,11),(0,12),(1,13),(0,14),(0,15)] kr ?_;have C:=HS.drew;refine ρd ?_;refine dki 108 (λh=>?_) (λh=>?_)
  .have hT:i<=G:=by have:=oT h;omega
   have lx:i<n:=om
   have ly:a<n:=om
   refine ρd ?_;refine dix (i) C.rd lx ?_;refine ρd ?_;refine dld (C.cell lx) ?_;refine ρd ?_;refine dix (a) C.rd ly ?_;refine ρd ?_;refine dld (C.cell ly) ?_;refine ρd ?_;refine Vm (hC.callV C lx ly) ?_;rintro r a5 ⟨rfl,D⟩;refine⟨D,?_⟩;have HT:=C.ext D;refine ρd ?_;refine ρ ?_;exact Jb _ sB ⟨HT,λ_=>hT,by rw[decide_eq_true hT];rfl⟩
  refine ρd ?_;refine ρ ?_;exact Jb false sB ⟨C,(λe=>by cases e),by grind⟩
 rintro t a4 ⟨a3,a1,Z⟩;refine ci (λh=>?_) (λh=>?_)
 .have:=a1 h;have a6:=suT (P:=(λx=>ltP ds x (q.getD a z0))) (Z.symm.trans h);refine ρ ?_;exact Qw (i+1) sO ⟨a3,om⟩ om
 have hU:Go.Sort.scanUp (λx=>ltP ds x (q.getD a z0)) q.toArray G i0=i:=by grind [suF,ltP,z0]
 clear a1 HS h Z;refine ρ ?_;refine Qf (fun (j:Nat)=>[(0,.slice A n c),(1,.int .i64 (a:Int)),(2,.int .i64 (b:Int)),(4,.func (.func fid) first cap),(12,.int .i64 (i:Int)),(13,.int .i64 (j:Int))]) (λj w'=>DP w w' base A n c ps q/\j<=G/\a<=j/\j<b/\Go.Sort.scanDown (λx=>!ltP ds x (q.getD a z0)) q.toArray i G=Go.Sort.scanDown (λx=>!ltP ds x (q.getD a z0)) q.toArray i j) (λj=>j) G sO ⟨a3,om⟩ ?_;rintro j wS ⟨HS,a8⟩;refine ρ ?_;refine Zw (fun (t:Bool)=>[(0,.slice A n c),(1,.int .i64 (a:Int)),(2,.int .i64 (b:Int)),(4,.func (.func fid) first cap),(12,.int .i64 (i:Int)),(13,.int .i64 (j:Int)),(139,.bool t)]) (λt w'=>DP w w' base A n c ps q/\(t=true->i<=j)/\t=(decide (i<=j) && (λx=>!ltP ds x (q.getD a z0)) (q.getD j z0))) ?_ ?_
 .skip
  refine dr [(0,0),(0,1),(0,2),(0,3),(0,4),(0,5),(0,6),(0,7),(0,8),(0,9),(0,10),(0,11),(0,12),(1,13),(0,14),(0,15),(0,16)] kr ?_;have C:=HS.drew;refine ρd ?_;refine dki 126 (λh=>?_) (λh=>?_)
  .have hT:i<=j:=by have:=oT h;omega
   have lx:j<n:=om
   have ly:a<n:=om
   refine ρd ?_;refine dix (j) C.rd lx ?_;refine ρd ?_;refine dld (C.cell lx) ?_;refine ρd ?_;refine dix (a) C.rd ly ?_;refine ρd ?_;refine dld (C.cell ly) ?_;refine ρd ?_;refine Vm (hC.callV C lx ly) ?_;rintro r a5 ⟨rfl,D⟩;refine⟨D,?_⟩;have HT:=C.ext D;refine ρd ?_;refine ρ ?_;exact Jb _ sB ⟨HT,λ_=>hT,by rw[decide_eq_true hT];rfl⟩
  refine ρd ?_;refine ρ ?_;exact Jb false sB ⟨C,(λe=>by cases e),by grind⟩
 rintro t a4 ⟨a2,a1,Z⟩;refine ci (λh=>?_) (λh=>?_)
 .have:=a1 h;have a6:=sdT (P:=(λx=>!ltP ds x (q.getD a z0))) (show 1<=i by omega) (Z.symm.trans h);refine ρ ?_;exact Qw (j-1) sO ⟨a2,om⟩ om
 have hN:Go.Sort.scanDown (λx=>!ltP ds x (q.getD a z0)) q.toArray i G=j:=by grind [sdF,ltP,z0]
 clear a1 HS h Z;refine ρ ?_;have J:a<n:=om
 have O:j<n:=om
 rw[partZ hU hN a9.1 a8.1]at hR;refine ci (λh=>?_) (λh=>?_)
 .rw[if_pos (show i > j by grind)]at hR;simp only[swz]at hR;refine ρ ?_;refine drC 4 [0,1,2,3,4,5,8,9] [(0,6),(0,7),(0,10),(0,11),(0,12),(2,13),(2,14),(2,15)] kr ?_;have o:=a2.drew;obtain⟨s1,s2,s3,⟨u,s4⟩,s5,s6⟩:=o.swap O J;refine ρp ?_;refine dix (a) o.rd J ?_;refine ρd ?_;refine dld (o.cell J) ?_;refine ρd ?_;refine dix (j) o.rd O ?_;refine ρd ?_;refine dld (o.cell O) ?_;refine ρd ?_;refine dix (j) o.rd O ?_;refine ρd ?_;refine Qj ?_;refine sto (o.cell O) s1 ?_ (hv:=o.one J);refine ρ ?_;refine Qs ?_;refine Qj ?_;refine ix (a) s2 J ?_;refine ρ ?_;refine Qs ?_;refine Qj ?_;refine sto s4 s3 ?_ (hv:=o.one O);refine ρ ?_;exact Vo ⟨_,s5,j,false,rfl,om,om,hR⟩
 have hT:i<=j:=by grind
 rw[if_neg (show¬ i > j by omega)]at hR;have li:i<n:=om
 refine ρ ?_;refine drC 4 [0,1,2,3,4,5,8,9] [(0,6),(0,7),(0,10),(0,11),(0,12),(2,13),(2,14),(2,15)] kr ?_;have o:=a2.drew;obtain⟨s1,s2,s3,⟨u,s4⟩,s5,s6⟩:=o.swap li O;refine ρp ?_;refine dix (j) o.rd O ?_;refine ρd ?_;refine dld (o.cell O) ?_;refine ρd ?_;refine dix (i) o.rd li ?_;refine ρd ?_;refine dld (o.cell li) ?_;refine ρd ?_;refine dix (i) o.rd li ?_;refine ρd ?_;refine Qj ?_;refine sto (o.cell li) s1 ?_ (hv:=o.one O);refine ρ ?_;refine Qs ?_;refine Qj ?_;refine ix (j) s2 O ?_;refine ρ ?_;refine Qs ?_;refine Qj ?_;refine sto s4 s3 ?_ (hv:=o.one li);refine ρ ?_;exact Qp (i+1) (j-1) _ sO ⟨s5,hR,om⟩ om
theorem Qpg(hD:Dat w base (.slice A n c) ps)(hn:ps.length=n)(hmx:n<=140737488355328)(hC:CF w (Value.slice A n c).ownBlock fid first cap ps ds)(hai:ai=(a:Int))(hbi:bi=(b:Int))(hab:a+1<b)(hb:b<=n):
  Ret Tryz.prog 185 [.slice A n c,.int .i64 ai,.int .i64 bi,.func (.func fid) first cap] w λv w'=>∃ ps',DP w w' base A n c ps ps'/\∃ t:Bool,v=.bool t/\Go.Sort.partialInsertionSort (ltP ds) ps.toArray a b=(ps'.toArray,t):=by
 subst hai;subst hbi;refine Jz Tryz.func185 Tryz.ntmps185 rfl kr rfl ?_;refine ρ ?_;refine Xm (fun (k i:Nat) (q:List Pr)=>[(0,.slice A n c),(1,.int .i64 (a:Int)),(2,.int .i64 (b:Int)),(3,.func (.func fid) first cap),(9,.int .i64 (i:Int)),(10,.int .i64 (k:Int))]) (λk i q w'=>DP w w' base A n c ps q/\Go.Sort.partialInsertionSort (ltP ds) ps.toArray a b=Go.Sort.partialIns (ltP ds) a b (5-k) i q.toArray/\a<i/\i<=b/\k<=5) (λk _ _=>5-k) 0 (a+1) ps sO ⟨DP.start hD hn,rfl,om⟩ ?_;rintro k i0 q w1 ⟨H,G,a9⟩;refine ρ ?_;refine ci (λh=>?_) (λh=>?_);rotate_left
 .refine ρ ?_;refine Jj ⟨q,H,false,rfl,?_⟩;rw[G,show 5-k=0 by grind];rfl
 have hk:k<5:=by grind
 clear h;refine ρ ?_;refine Qf (fun (i:Nat)=>[(0,.slice A n c),(1,.int .i64 (a:Int)),(2,.int .i64 (b:Int)),(3,.func (.func fid) first cap),(10,.int .i64 (k:Int)),(9,.int .i64 (i:Int))]) (λi w'=>DP w w' base A n c ps q/\i0<=i/\a<i/\i<=b/\Go.Sort.scanSorted (ltP ds) q.toArray b i0=Go.Sort.scanSorted (ltP ds) q.toArray b i) (λi=>b-i) i0 sO ⟨H,om⟩ ?_;rintro i wS ⟨HS,ab⟩;refine ρ ?_;refine Zw (fun (t:Bool)=>[(0,.slice A n c),(1,.int .i64 (a:Int)),(2,.int .i64 (b:Int)),(3,.func (.func fid) first cap),(10,.int .i64 (k:Int)),(9,.int .i64 (i:Int)),(36,.bool t)]) (λt w'=>DP w w' base A n c ps q/\(t=true->i<b)/\t=(decide (i<b) && !ltP ds (q.getD i z0) (q.getD (i-1) z0))) ?_ ?_
 .skip
  refine dr [(0,0),(0,1),(0,2),(0,3),(0,4),(0,5),(0,6),(0,7),(0,8),(0,9),(0,10),(0,11),(0,12),(0,13),(1,14),(0,15),(0,16),(0,17)] kr ?_;have Z:=HS.drew;refine ρd ?_;refine dki 22 (λh=>?_) (λh=>?_)
  .have hT:i<b:=by have:=oT h;omega
   have lx:i<n:=om
   have ly:i-1<n:=om
   refine ρd ?_;refine dix (i) Z.rd lx ?_;refine ρd ?_;refine dld (Z.cell lx) ?_;refine ρd ?_;refine dix (i-1) Z.rd ly ?_;refine ρd ?_;refine dld (Z.cell ly) ?_;refine ρd ?_;refine Vm (hC.callV Z lx ly) ?_;rintro r a2 ⟨rfl,D⟩;refine⟨D,?_⟩;have HT:=Z.ext D;refine ρd ?_;refine ρ ?_;exact Jb _ sB ⟨HT,λ_=>hT,by rw[decide_eq_true hT];rfl⟩
  refine ρd ?_;refine ρ ?_;exact Jb false sB ⟨Z,(λe=>by cases e),by grind⟩
 rintro t a7 ⟨a1,a4,a3⟩;refine ci (λh=>?_) (λh=>?_)
 .have:=a4 h;have a8:=ssT (a3.symm.trans h);refine ρ ?_;exact Qw (i+1) sO ⟨a1,om⟩ om
 have a6:Go.Sort.scanSorted (ltP ds) q.toArray b i0=i:=by grind [ssF]
 rw[show 5-k=(5-(k+1))+1 by omega,Qph a6]at G;clear a4 HS h a3;refine ρ ?_;refine ci (λh=>?_) (λh=>?_)
 .rw[if_pos (show i=b by have:=Xa h;omega)]at G;refine ρ ?_;exact Jj ⟨q,a1,true,rfl,G⟩
 have aa:i<b:=by have:=Zq h;omega
 rw[if_neg (show¬ i=b by omega)]at G;clear h;refine ρ ?_;refine ci (λh=>?_) (λh=>?_)
 .rw[if_pos (show b-a<50 by grind)]at G;refine ρ ?_;exact Jj ⟨q,a1,false,rfl,G⟩
 rw[if_neg (show¬ b-a<50 by grind)]at G;clear h;have lx:i<n:=om
 have ly:i-1<n:=om
 refine ρ ?_;refine drC 4 [0,1,2,3,4,5,6,7,10,11] [(0,8),(0,9),(0,12),(0,13),(0,14),(2,15),(2,16),(2,17)] kr ?_;have C:=a1.drew;obtain⟨s1,s2,s3,⟨u,s4⟩,s5,s6⟩:=C.swap lx ly;refine ρp ?_;refine dix (i-1) C.rd ly ?_;refine ρd ?_;refine dld (C.cell ly) ?_;refine ρd ?_;refine dix (i) C.rd lx ?_;refine ρd ?_;refine dld (C.cell lx) ?_;refine ρd ?_;refine dix (i) C.rd lx ?_;refine ρd ?_;refine Qj ?_;refine sto (C.cell lx) s1 ?_ (hv:=C.one ly);refine ρ ?_;refine Qs ?_;refine Qj ?_;refine ix (i-1) s2 ly ?_;refine ρ ?_;refine Qs ?_;refine Qj ?_;refine sto s4 s3 ?_ (hv:=C.one lx);refine ρ ?_;have H5:=s5;clear s1 s2 s3 s4 s5 s6 u C a1 H;generalize swp z0 q i (i-1)=q5 at H5 G
 refine Zw (fun (q:List Pr)=>[(0,.slice A n c),(1,.int .i64 (a:Int)),(2,.int .i64 (b:Int)),(3,.func (.func fid) first cap),(9,.int .i64 (i:Int)),(10,.int .i64 (k:Int))]) (λq w'=>DP w w' base A n c ps q/\(if i-a ≥ 2 then Go.Sort.shiftDown (ltP ds) (i-1) q5.toArray else q5.toArray)=q.toArray) ?_ ?_
 .refine ci (λh=>?_) (λh=>?_);rotate_left
  .refine ρ ?_;exact Jb _ sB ⟨H5,if_neg (by grind)⟩
  rw[if_pos (show i-a ≥ 2 by grind)];refine ρ ?_;refine Jt (fun (m:Nat) (q:List Pr)=>[(0,.slice A n c),(1,.int .i64 (a:Int)),(2,.int .i64 (b:Int)),(3,.func (.func fid) first cap),(9,.int .i64 (i:Int)),(10,.int .i64 (k:Int)),(11,.int .i64 (m:Int))]) (λm q w'=>DP w w' base A n c ps q/\m<n/\Go.Sort.shiftDown (ltP ds) (i-1) q5.toArray=Go.Sort.shiftDown (ltP ds) m q.toArray) (λm _=>m) (i-1) q5 sO ⟨H5,om,rfl⟩ ?_;rintro m q w2 ⟨H,hm,O⟩;refine ρ ?_;refine ci (λh=>?_) (λh=>?_);rotate_left
  .rw[show m=0 by grind,Go.Sort.shiftDown]at O;refine ρ ?_;exact Jb _ sB ⟨H,O⟩
  have h1:1<=m:=by grind
  have J:m-1<n:=om
  refine ρ ?_;refine dr [(0,0),(0,1),(0,2),(0,3),(0,4),(0,5),(0,6),(0,7),(0,8),(0,9),(1,10),(0,11),(0,12)] kr ?_;have Hd:=H.drew;refine ρd ?_;refine ρd ?_;refine dix (m) Hd.rd hm ?_;refine ρd ?_;refine dld (Hd.cell hm) ?_;refine ρd ?_;refine dix (m-1) Hd.rd J ?_;refine ρd ?_;refine dld (Hd.cell J) ?_;refine ρd ?_;rw[shd h1]at O;refine Vm (hC.callV Hd hm J) ?_;rintro r a2 ⟨rfl,D⟩;refine⟨D,?_⟩;have HT:=Hd.ext D;refine ρd ?_;refine ρ ?_;refine ci (λh=>?_) (λh=>?_)
  .rw[if_pos (show(!ltP ds (q.getD m z0) (q.getD (m-1) z0))=true from h)]at O;refine ρ ?_;exact Jb _ sB ⟨HT,O⟩
  rw[if_neg (show¬ (!ltP ds (q.getD m z0) (q.getD (m-1) z0))=true fromλe=>by grind [ltP,z0])]at O;refine ρ ?_;refine drC 4 [0,1,2,3,4,5,6,7,10,11] [(0,8),(0,9),(0,12),(0,13),(0,14),(2,15),(2,16),(2,17)] kr ?_;have o:=HT.drew;obtain⟨s1,s2,s3,⟨u,s4⟩,s5,s6⟩:=o.swap hm J;refine ρp ?_;refine dix (m-1) o.rd J ?_;refine ρd ?_;refine dld (o.cell J) ?_;refine ρd ?_;refine dix (m) o.rd hm ?_;refine ρd ?_;refine dld (o.cell hm) ?_;refine ρd ?_;refine dix (m) o.rd hm ?_;refine ρd ?_;refine Qj ?_;refine sto (o.cell hm) s1 ?_ (hv:=o.one J);refine ρ ?_;refine Qs ?_;refine Qj ?_;refine ix (m-1) s2 J ?_;refine ρ ?_;refine Qs ?_;refine Qj ?_;refine sto s4 s3 ?_ (hv:=o.one hm);refine ρ ?_;exact Jf (m-1) _ sO ⟨s5,om,O⟩ om
 clear H5;rintro q6 w5 ⟨H5,a5⟩;rw[a5]at G;clear a5 q5;generalize q6=q5 at H5 G
 clear q6;refine ρ ?_;refine ci (λh=>?_) (λh=>?_);rotate_left
 .rw[if_neg (show¬ b-i ≥ 2 by grind)]at G;refine ρ ?_;exact Qp (k+1) i q5 sO ⟨H5,G,om⟩ om
 rw[if_pos (show b-i ≥ 2 by grind)]at G;refine ρ ?_;refine Jt (fun (m:Nat) (q:List Pr)=>[(0,.slice A n c),(1,.int .i64 (a:Int)),(2,.int .i64 (b:Int)),(3,.func (.func fid) first cap),(9,.int .i64 (i:Int)),(10,.int .i64 (k:Int)),(12,.int .i64 (m:Int))]) (λm q w'=>DP w w' base A n c ps q/\Go.Sort.shiftUp (ltP ds) b (i+1) q5.toArray=Go.Sort.shiftUp (ltP ds) b m q.toArray/\0<m/\m<=b) (λm _=>b-m) (i+1) q5 sO ⟨H5,rfl,om⟩ ?_;rintro m q w2 ⟨H,O,hm⟩;refine ρ ?_;refine ci (λh=>?_) (λh=>?_);rotate_left
 .rw[shu0 (show¬ m<b by grind)]at O;rw[O]at G;refine ρ ?_;exact Qp (k+1) i q sO ⟨H,G,om⟩ om
 have h1:m<n:=by grind
 have h2:m<b:=by grind
 have J:m-1<n:=om
 refine ρ ?_;refine dr [(0,0),(0,1),(0,2),(0,3),(0,4),(0,5),(0,6),(0,7),(0,8),(0,9),(1,10),(0,11),(0,12)] kr ?_;have Hd:=H.drew;refine ρd ?_;refine ρd ?_;refine dix (m) Hd.rd h1 ?_;refine ρd ?_;refine dld (Hd.cell h1) ?_;refine ρd ?_;refine dix (m-1) Hd.rd J ?_;refine ρd ?_;refine dld (Hd.cell J) ?_;refine ρd ?_;rw[shu h2]at O;refine Vm (hC.callV Hd h1 J) ?_;rintro r a2 ⟨rfl,D⟩;refine⟨D,?_⟩;have HT:=Hd.ext D;refine ρd ?_;refine ρ ?_;refine ci (λh=>?_) (λh=>?_)
 .rw[if_pos (show(!ltP ds (q.getD m z0) (q.getD (m-1) z0))=true from h)]at O;rw[O]at G;refine ρ ?_;exact Qp (k+1) i q sO ⟨HT,G,om⟩ om
 rw[if_neg (show¬ (!ltP ds (q.getD m z0) (q.getD (m-1) z0))=true fromλe=>by grind [ltP,z0])]at O;refine ρ ?_;refine drC 4 [0,1,2,3,4,5,6,7,10,11] [(0,8),(0,9),(0,12),(0,13),(0,14),(2,15),(2,16),(2,17)] kr ?_;have o:=HT.drew;obtain⟨s1,s2,s3,⟨u,s4⟩,s5,s6⟩:=o.swap h1 J;refine ρp ?_;refine dix (m-1) o.rd J ?_;refine ρd ?_;refine dld (o.cell J) ?_;refine ρd ?_;refine dix (m) o.rd h1 ?_;refine ρd ?_;refine dld (o.cell h1) ?_;refine ρd ?_;refine dix (m) o.rd h1 ?_;refine ρd ?_;refine Qj ?_;refine sto (o.cell h1) s1 ?_ (hv:=o.one J);refine ρ ?_;refine Qs ?_;refine Qj ?_;refine ix (m-1) s2 J ?_;refine ρ ?_;refine Qs ?_;refine Qj ?_;refine sto s4 s3 ?_ (hv:=o.one h1);refine ρ ?_;exact Jf (m+1) _ sO ⟨s5,O,om⟩ om
open Go.RowKit Pl Go.Wk
variable {ps q q' q3:List Pr}{base c n:Nat}{A A0:Option Addr}{pm x y z:Pr}{w w' w0:World}
theorem DP.same(h:DP w0 w base A n c ps q)(k:DP w w' base A n c q q): DP w0 w' base A n c ps q:=h.after k
theorem DP.ins{a b:Nat}(h:DP w0 w base A n c ps q)(k1:Dat w' base (.slice A n c) q')(k2:Seg z0 a b q q')(k3:w.grownBy w' (Value.slice A n c).ownBlock): DP w0 w' base A n c ps q' :=
 ⟨k1,k2.perm.trans h.p,Zn h.g k3,by rw[k2.len];exact h.l⟩
section
variable {ds:List Bool} {q q1 q2:List Pr} {a b m A B:Nat}
def BelZ(ds:List Bool)(q:List Pr)(a b:Nat): Prop:=a=0∨∀ i,a<=i->i<b->fP ds (q.getD (a-1) z0) (q.getD i z0)<=0
def KpZ(ds:List Bool)(q:List Pr)(a b A B:Nat): Prop:=∀ q2,Seg z0 a b q q2->SOn z0 (fP ds) q2 a b->SOn z0 (fP ds) q2 A B
theorem KpZ.seg(h:KpZ ds q a b A B)(hs:Seg z0 a b q q1): KpZ ds q1 a b A B:=λq2 u o=>h q2 (hs.trans u) o
theorem BelZ.seg(h:BelZ ds q a b)(hs:Seg z0 a b q q1)(hab:a<=b)(hb:b<=q.length): BelZ ds q1 a b:=by
 rcases h with h|h
 .exact .inl h
 rcases Nat.eq_zero_or_pos a with h0|h0
 .exact .inl h0
 refine .inr λi u o=>?_;rw[hs.lo (a-1) om];exact hs.all hab hb (Φ:=λx=>fP ds (q.getD (a-1) z0) x<=0) h i u o
theorem BelZ.arr(h:BelZ ds q a b): Go.Sort.Below (ltP ds) a b q.toArray:=by
 rcases h with h|h
 .exact .inl h
 exact .inr λi u o=>by rw[az,az];exact ltP_f' (h i u o)
theorem Jcr(h1:fP ds x y<=0)(h2:fP ds y z<=0): fP ds x z<=0:=Jct _ _ _ ds h1 h2
theorem Xxs{pv:Nat}(H:DP w0 w base A0 n c q q1)(hlq:q.length=n)(hB:BelZ ds q a b)(hK:KpZ ds q a b A B)(h0:0<a)(hlt:ltP ds (q.getD (a-1) z0) (q.getD pv z0)=false)(hp0:a<=pv)(hp1:pv<b)(hb:b<=n)(hE:Go.Sort.partitionEqual (ltP ds) q.toArray a b pv=(m,q1.toArray)): Seg z0 a b q q1/\BelZ ds q1 m b/\KpZ ds q1 m b A B:=by
 have J:∀ i,a<=i->i<b->fP ds (q.getD pv z0) (q.getD i z0)<=0:=λi G D=>by
  rcases hB with h|h
  .omega
  exact Jcr (Jxw hlt) (h i G D)
 have hP:=Go.Sort.partitionEqual_holds (ltP ds) (swoP ds) q.toArray a b pv hp0 hp1 (by simpa [hlq] using hb) λi G D=>by
  rw[az,az];exact ltP_f' (J i G D)
 rw[hE]at hP;obtain⟨a3,a1,C,a2,a4⟩:=hP;have O:=H.seg C;have o:=O.all om om (Φ:=λx=>fP ds (q.getD pv z0) x<=0) J;have u:∀ i,a<=i->i<m->fP ds (q1.getD i z0) (q.getD pv z0)<=0:=λi G D=>by
  have:=a2 i G D;rw[az,az]at this;exact Jxw this
 refine⟨O,.inr λi G D=>Jcr (u (m-1) om om) (o i om D),λq3 Z h4=>hK q3 (O.trans (Z.mono om (nR _))) λi j h5 h6 h7=>?_⟩;by_cases hi:i<m
 .rw[Z.lo i hi];refine Jcr (u i h5 hi) ?_;by_cases hj:j<m
  .rw[Z.lo j hj];exact o j om h7
  exact Z.all a1 (by rw[O.len];omega) (Φ:=λx=>fP ds (q.getD pv z0) x<=0) (λk k1 k2=>o k om k2) j om h7
 exact h4 i j om h6 h7
theorem Qpj{pv:Nat}{t:Bool}(H:DP w0 w base A0 n c q q1)(hlq:q.length=n)(hp0:a<=pv)(hp1:pv<b)(hb:b<=n)(hE:Go.Sort.partition (ltP ds) q.toArray a b pv=(m,t,q1.toArray)):
  Seg z0 a b q q1/\a<=m/\m<b/\(∀ i,a<=i->i<m->fP ds (q1.getD i z0) (q1.getD m z0)<=0)/\(∀ i,m<i->i<b->fP ds (q1.getD m z0) (q1.getD i z0)<=0):=by
 have Z:=Go.Sort.partition_holds (ltP ds) (swoP ds) q.toArray a b pv hp0 hp1 (by simpa [hlq] using hb);rw[hE]at Z;obtain⟨C,u,o,D,G⟩:=Z;refine⟨H.seg o,C,u,λi O J=>?_,λi O J=>?_⟩
 .have:=D i O J;rw[az,az]at this;exact Int.le_of_lt (Jhq this)
 have:=G i O J;rw[az,az]at this;exact Jxw this
theorem Qqz(hm:a<=m)(hmb:m<b)(hpm:q3.getD m z0=pm)(hL:SOn z0 (fP ds) q3 a m)(hR:SOn z0 (fP ds) q3 (m+1) b)(hlo:∀ i,a<=i->i<m->fP ds (q3.getD i z0) pm<=0)(hhi:∀ i,m<i->i<b->fP ds pm (q3.getD i z0)<=0): SOn z0 (fP ds) q3 a b:=λi j C o u=>by
 rcases Nat.lt_trichotomy i m with hi|hi|hi
 .rcases Nat.lt_trichotomy j m with hj|hj|hj
  .exact hL i j C o hj
  repeat grind [Jcr]
 .grind
 exact hR i j om o u
theorem Qtv(hS:Seg z0 a b q q1)(hl:b<=q.length)(hK:KpZ ds q a b A B)(hm:a<=m)(hmb:m<b)(hlo:∀ i,a<=i->i<m->fP ds (q1.getD i z0) (q1.getD m z0)<=0)(hhi:∀ i,m<i->i<b->fP ds (q1.getD m z0) (q1.getD i z0)<=0)(h2:Seg z0 a m q1 q2)(hs:SOn z0 (fP ds) q2 a m): BelZ ds q2 (m+1) b/\KpZ ds q2 (m+1) b A B:=by
 have l1:q1.length=q.length:=hS.len;have Z:q2.length=q1.length:=h2.len;have G:q2.getD m z0=q1.getD m z0:=h2.hi m (nR _);have C:∀ i,m+1<=i->i<b->fP ds (q1.getD m z0) (q2.getD i z0)<=0:=λi u o=>by rw[h2.hi i om];grind
 refine⟨.inr λi u o=>by grind,λJ D O=>hK J ((hS.trans (h2.mono (nR _) om)).trans (D.mono om (nR _))) ?_⟩;refine Qqz hm hmb (pm:=q1.getD m z0) (by rw[D.lo m om,G]) (hs.same λk u o=>D.lo k om) O (λi u o=>?_) λi u o=>?_
 .rw[D.lo i om];exact h2.all hm om (Φ:=λx=>fP ds x (q1.getD m z0)<=0) hlo i u o
 exact D.all om om (Φ:=λx=>fP ds (q1.getD m z0) x<=0) C i om o
theorem Qmb(hS:Seg z0 a b q q1)(hl:b<=q.length)(hB:BelZ ds q a b)(hK:KpZ ds q a b A B)(hm:a<=m)(hmb:m<b)(hlo:∀ i,a<=i->i<m->fP ds (q1.getD i z0) (q1.getD m z0)<=0)(hhi:∀ i,m<i->i<b->fP ds (q1.getD m z0) (q1.getD i z0)<=0)(h2:Seg z0 (m+1) b q1 q2)(hs:SOn z0 (fP ds) q2 (m+1) b): BelZ ds q2 a m/\KpZ ds q2 a m A B:=by
 have l1:q1.length=q.length:=hS.len;have l2:q2.length=q1.length:=h2.len;have G:q2.getD m z0=q1.getD m z0:=h2.lo m om;have J:=(hB.seg hS om hl).seg (h2.mono om (nR _)) om om;refine⟨J.imp id λh i u o=>h i u om,λZ C h4=>hK Z ((hS.trans (h2.mono om (nR _))).trans (C.mono (nR _) om)) ?_⟩;refine Qqz hm hmb (pm:=q1.getD m z0) (by rw[C.hi m (nR _),G]) h4 (hs.same λk u o=>C.hi k om) (λi u o=>?_) λi u o=>?_
 .exact C.all hm om (Φ:=λx=>fP ds x (q1.getD m z0)<=0) (λk O D=>by rw[h2.lo k om];exact hlo k O D) i u o
 rw[C.hi i om];exact h2.all om om (Φ:=λx=>fP ds (q1.getD m z0) x<=0) (λk O D=>hhi k om D) i om o
end
theorem Qpd: ∀(m:Nat) {w:World} {base:Nat} {A:Option Addr} {n c:Nat} {fid:FuncId} {first cap:Array Value} {ps:List Pr} {ds:List Bool} (hD:Dat w base (.slice A n c) ps) (hn:ps.length=n) (hmx:n<=140737488355328) (hC:CF w (Value.slice A n c).ownBlock fid first cap ps ds) {a0 b0:Nat} {ai bi lim:Int} (hai:ai=(a0:Int)) (hbi:bi=(b0:Int)) (hab:a0<=b0) (hb:b0<=n) (hl:0<=lim/\lim<=64) (hm:b0-a0<=m) (hBl:BelZ ds ps a0 b0),
  Ret Tryz.prog 157 [.slice A n c,.int .i64 ai,.int .i64 bi,.int .i64 lim,.func (.func fid) first cap] w λv w'=>∃ ps',DP w w' base A n c ps ps'/\Seg z0 a0 b0 ps ps'/\SOn z0 (fP ds) ps' a0 b0:=by
 intro m;induction m using Nat.strongRecOn with
 | ind m ih=>
 intro w base A n c fid first cap ps ds hD hn hmx hC a0 b0 ai bi lim hai hbi hab hb hl hm hBl
 subst hai;subst hbi;refine Jz Tryz.func157 Tryz.ntmps157 rfl kr rfl ?_;refine ρ ?_;refine Jqs (fun (ab:Nat×Nat) (lt:Int×Bool) (wp:Bool) (q:List Pr)=>[(0,.slice A n c),(1,.int .i64 (ab.1:Int)),(2,.int .i64 (ab.2:Int)),(3,.int .i64 lt.1),(4,.func (.func fid) first cap),(10,.bool lt.2),(11,.bool wp)])
  (λab lt wp q w'=>DP w w' base A n c ps q/\(Seg z0 a0 b0 ps q/\BelZ ds q ab.1 ab.2/\KpZ ds q ab.1 ab.2 a0 b0/\a0<=ab.1/\ab.2<=b0)/\ab.1<=ab.2/\ab.2<=n/\ab.2-ab.1<=m/\0<=lt.1/\lt.1<=64) (λab _ _ _=>ab.2-ab.1) (a0,b0) (lim,true) true ps sB ⟨DP.start hD hn,⟨Seg.refl _ _ _,hBl,λq2 _ h=>h,Nat.le_refl _,Nat.le_refl _⟩,om,om,om,om,om⟩ ?_
 have am:=hb;clear hD hab hb hm;rintro⟨a,b⟩ ⟨lim,wb⟩ a5 q w1 ⟨H,⟨u,C,o,J,G⟩,hab,hb,hm,a7,a6⟩;simp only at hab hb hm a7 a6 C o J G;refine ρ ?_;refine ci (λh=>?_) (λh=>?_)
 .refine ρ ?_;refine cl (Xqd (ai:=(a:Int)) (bi:=(b:Int)) H.d H.l rfl rfl hb om hmx (hC.step H).pack) ?_;rintro v w2 ⟨q2,k1,k2,k3,k4⟩;refine ρ ?_;exact Jww ⟨q2,H.ins k1 k2 k4,u.trans (k2.mono J G),o q2 k2 k3⟩
 have a9:a+12<b:=by grind
 clear h;refine ρ ?_;refine ci (λh=>?_) (λh=>?_)
 .refine ρ ?_;refine cl (Xqv (a:=a) (b:=b) H.d H.l hmx (hC.step H) rfl rfl om hb) ?_;rintro v w2 ⟨q2,Z,a4⟩;have hs:=Go.Sort.heapSort_holds (lt:=ltP ds) (swoP ds) q.toArray a b om (by simpa [H.l] using hb);rw[a4]at hs;have af:=Z.seg hs.1;refine ρ ?_;exact Jww ⟨q2,H.after Z,u.trans (af.mono J G),o q2 af (Jsq hs.2)⟩
 have ah:lim≠0:=Zq h;clear h;refine ρ ?_;refine Jjf (fun (lim:Int) (q:List Pr)=>[(0,.slice A n c),(1,.int .i64 (a:Int)),(2,.int .i64 (b:Int)),(3,.int .i64 lim),(4,.func (.func fid) first cap),(10,.bool wb),(11,.bool a5),(12,.int .i64 ((b:Int)-(a:Int)))]) (λlim q w'=>DP w w' base A n c ps q/\0<=lim/\lim<=64/\Seg z0 a0 b0 ps q/\BelZ ds q a b/\KpZ ds q a b a0 b0) ?_ ?_
 .refine ci (λh=>?_) (λh=>?_)
  .refine ρ ?_;refine cl (Xwq (a:=a) (b:=b) H.d H.l hmx (hC.step H) rfl rfl a9 hb) ?_;rintro v w2 ⟨q2,Z,D⟩;refine ρ ?_;exact Vk (lim-1) q2 sB ⟨H.after Z,om,om,u.trans (D.mono J G),C.seg D om (by rw[H.l];exact hb),o.seg D⟩
  refine ρ ?_;exact Vk lim q sB ⟨H,om,om,u,C,o⟩
 clear H a7 a6 ah u C o lim q;rintro lim q w2 ⟨H,a7,a6,u,C,o⟩;refine ρ ?_;refine cl (Xwb (a:=a) (b:=b) H.d H.l hmx (hC.step H) rfl rfl a9 hb) ?_;rintro v w3 ⟨pv,O,rfl,a3,a2,Z⟩;have H3:=H.same Z;clear H Z;refine ρ ?_;refine Jpt (fun (pv:Nat) (O:Int) (q:List Pr)=>[(0,.slice A n c),(1,.int .i64 (a:Int)),(2,.int .i64 (b:Int)),(3,.int .i64 lim),(4,.func (.func fid) first cap),(10,.bool wb),(11,.bool a5),(12,.int .i64 ((b:Int)-(a:Int))),(13,.int .i64 (pv:Int)),(14,.int .i64 O)]) (λpv O q w'=>DP w w' base A n c ps q/\a<=pv/\pv<b/\Seg z0 a0 b0 ps q/\BelZ ds q a b/\KpZ ds q a b a0 b0) ?_ ?_
 .refine ci (λh=>?_) (λh=>?_)
  .refine ρ ?_;refine cl (Qmc (a:=a) (b:=b) H3.d H3.l hmx (hC.step H3) rfl rfl om hb) ?_;rintro v w2 ⟨q2,Z,D⟩;refine ρ ?_;exact Jbd (b-1-(pv-a)) 1 q2 sO ⟨H3.after Z,om,om,u.trans (D.mono J G),C.seg D om (by rw[H3.l];exact hb),o.seg D⟩
  refine ρ ?_;exact Jbd pv O q sB ⟨H3,a3,a2,u,C,o⟩
 clear H3 a3 a2 u C o pv O q;rintro pv O q w3 ⟨H,a3,a2,u,C,o⟩;refine ρ ?_;refine Vn (fun (t:Bool)=>[(0,.slice A n c),(1,.int .i64 (a:Int)),(2,.int .i64 (b:Int)),(3,.int .i64 lim),(4,.func (.func fid) first cap),(10,.bool wb),(11,.bool a5),(12,.int .i64 ((b:Int)-(a:Int))),(13,.int .i64 (pv:Int)),(75,.bool t)]) (λt w'=>DP w w' base A n c ps q) ?_ ?_
 .refine ki 69 (λh=>?_) (λh=>?_)
  .refine ρ ?_;refine ki 72 (λh=>?_) (λh=>?_)
   .refine ρ ?_;exact Jb _ sB H
   refine ρ ?_;exact Jb _ sB H
  refine ρ ?_;exact Jb _ sB H
 clear H;rintro t w4 H;refine Zw (fun (q:List Pr)=>[(0,.slice A n c),(1,.int .i64 (a:Int)),(2,.int .i64 (b:Int)),(3,.int .i64 lim),(4,.func (.func fid) first cap),(10,.bool wb),(11,.bool a5),(12,.int .i64 ((b:Int)-(a:Int))),(13,.int .i64 (pv:Int))]) (λq w'=>DP w w' base A n c ps q/\Seg z0 a0 b0 ps q/\BelZ ds q a b/\KpZ ds q a b a0 b0) ?_ ?_
 .refine ci (λh=>?_) (λh=>?_)
  .refine ρ ?_;refine cl (Qpg (a:=a) (b:=b) H.d H.l hmx (hC.step H) rfl rfl om hb) ?_;rintro v w2 ⟨q2,Z,t2,rfl,a4⟩;have hs:=Go.Sort.partialInsertionSort_holds (lt:=ltP ds) (swoP ds) q.toArray a b om (by simpa [H.l] using hb) C.arr;rw[a4]at hs;have D:=Z.seg hs.1;refine ρ ?_;refine ci (λh=>?_) (λh=>?_)
   .refine ρ ?_;exact Jww ⟨q2,H.after Z,u.trans (D.mono J G),o q2 D (Jsq (hs.2 h))⟩
   refine ρ ?_;exact Jb _ sB ⟨H.after Z,u.trans (D.mono J G),C.seg D om (by rw[H.l];exact hb),o.seg D⟩
  refine ρ ?_;exact Jb _ sB ⟨H,u,C,o⟩
 clear H u C o q;rintro q w5 ⟨H,u,C,o⟩;refine ρ ?_;refine Zw (fun (t:Bool)=>[(0,.slice A n c),(1,.int .i64 (a:Int)),(2,.int .i64 (b:Int)),(3,.int .i64 lim),(4,.func (.func fid) first cap),(10,.bool wb),(11,.bool a5),(12,.int .i64 ((b:Int)-(a:Int))),(13,.int .i64 (pv:Int)),(97,.bool t)]) (λt w'=>DP w w' base A n c ps q/\(t=true->0<a/\ltP ds (q.getD (a-1) z0) (q.getD pv z0)=false)) ?_ ?_
 .skip
  refine dr [(0,0),(0,1),(0,2),(0,3),(0,4),(0,5),(0,6),(0,7),(0,8),(0,9),(0,10),(0,11),(0,12),(1,13),(0,14),(0,15),(0,16)] kr ?_;have Hd:=H.drew;refine ρd ?_;refine dki 83 (λh=>?_) (λh=>?_)
  .have hT:0<a:=by have:=oT h;omega
   have lx:a-1<n:=om
   have ly:pv<n:=om
   refine ρd ?_;refine dix (a-1) Hd.rd lx ?_;refine ρd ?_;refine dld (Hd.cell lx) ?_;refine ρd ?_;refine dix (pv) Hd.rd ly ?_;refine ρd ?_;refine dld (Hd.cell ly) ?_;refine ρd ?_;refine Vm (hC.callV Hd lx ly) ?_;rintro r ak ⟨rfl,a8⟩;refine⟨a8,?_⟩;have HT:=Hd.ext a8;refine ρd ?_;refine ρ ?_;exact Jb _ sB ⟨HT,λe=>⟨hT,by grind [ltP,z0,pv]⟩⟩
  refine ρd ?_;refine ρ ?_;exact Jb false sB ⟨Hd,λe=>by cases e⟩
 clear H;rintro t2 w6 ⟨H,aa⟩;refine ci (λh=>?_) (λh=>?_)
 .refine ρ ?_;refine cl (Qpm (a:=a) (b:=b) (pv:=pv) H.d H.l hmx (hC.step H) rfl rfl rfl om hb a3 a2) ?_;rintro v w2 ⟨q2,Z,a1,rfl,ad,ac,a4⟩;obtain⟨k1,k2,k3⟩:=Xxs Z H.l C o (aa h).1 (aa h).2 a3 a2 hb a4;refine ρ ?_;exact Kb (a1,b) (lim,wb) a5 q2 sB ⟨H.after Z,⟨u.trans (k1.mono J G),k2,k3,by simp only;omega,G⟩,by simp only;omega,by simp only;omega,by simp only;omega,by simp only;omega,by simp only;omega⟩ (by simp only;omega)
 refine ρ ?_;refine cl (Qpk (a:=a) (b:=b) (pv:=pv) H.d H.l hmx (hC.step H) rfl rfl rfl om hb a3 a2) ?_;rintro v w7 ⟨q2,Z,a1,ag,rfl,ad,ac,a4⟩;have H3:=H.after Z;obtain⟨k1,_,_,k4,k5⟩:=Qpj Z H.l a3 a2 hb a4;have ae:b<=q.length:=by rw[H.l];exact hb
 have aj:=C.seg k1 om ae;clear H Z aa;refine ρ ?_;refine qn (b-a) 8 ?_;refine ρ ?_;refine ci (λh=>?_) (λh=>?_)
 .refine ρ ?_;refine cl (ih (a1-a) om H3.d H3.l hmx (hC.step H3) (a0:=a) (b0:=a1) rfl rfl om om ⟨a7,a6⟩ (nR _) (aj.imp id λh i j1 j2=>h i j1 om)) ?_;rintro v w8 ⟨q3,H4,k6,k7⟩;obtain⟨k8,k9⟩:=Qtv k1 ae o ad ac k4 k5 k6 k7;refine ρ ?_;exact Kb (a1+1,b) (lim,_) ag q3 sO ⟨H3.after H4,⟨(u.trans (k1.mono J G)).trans (k6.mono J om),k8,k9,by simp only;omega,G⟩,by simp only;omega,by simp only;omega,by simp only;omega,by simp only;omega,by simp only;omega⟩ (by simp only;omega)
 refine ρ ?_;refine cl (ih (b-(a1+1)) om H3.d H3.l hmx (hC.step H3) (a0:=a1+1) (b0:=b) (ai:=(a1:Int)+1) om rfl om om ⟨a7,a6⟩ (nR _) (.inr λi j1 j2=>by grind)) ?_;rintro v w8 ⟨q3,H4,k6,k7⟩;obtain⟨k8,k9⟩:=Qmb k1 ae C o ad ac k4 k5 k6 k7;refine ρ ?_;exact Kb (a,a1) (lim,_) ag q3 sO ⟨H3.after H4,⟨(u.trans (k1.mono J G)).trans (k6.mono om G),k8,k9,J,by simp only;omega⟩,by simp only;omega,by simp only;omega,by simp only;omega,by simp only;omega,by simp only;omega⟩ (by simp only;omega)
end Go.Proofs.YtbcdghbonlifdaaGreatDoor
namespace Go.Wk
open Go.RowKit
variable {cs xs:List Value}{base e m n:Nat}{N N':Nat->Prop}{A:Option Addr}{g:Option Nat}{v x:Value}{a w w':World}
structure GrN(N:Nat->Prop)(w w':World): Prop where
 os:w'.os=w.os
 tape:w'.tape=w.tape
 output:w'.output=w.output
 size:w.heap.size<=w'.heap.size
 block:∀ k,k<w.heap.size->¬ N k->w'.heap[k]?=w.heap[k]?
theorem GrN.refl(N:Nat->Prop)(w:World): GrN N w w:=⟨rfl,rfl,rfl,Nat.le_refl _,λ_ _ _=>rfl⟩
theorem GrN.ext(h:Ext w w'): GrN N w w':=⟨h.os,h.tape,h.output,h.size,λk o _=>h.block k o⟩
theorem GrN.trans{N:Nat->Prop}{a b c:World}(h:GrN N a b)(k:GrN N b c): GrN N a c :=
 ⟨k.os.trans h.os,k.tape.trans h.tape,k.output.trans h.output,Nat.le_trans h.size k.size,λj o hn=>(k.block j (nM o h.size) hn).trans (h.block j o hn)⟩
theorem GrN.by(h:w.grownBy w' g)(hg:∀ k,g=some k->N k): GrN N w w':=⟨h.os,h.tape,h.output,h.size,λk o hn=>h.block k o (λe=>hn (hg k e.symm))⟩
theorem GrN.set{p:Addr}(u:Value)(hp:N p.block): GrN N w (w.setCell p u):=by
 refine⟨rfl,rfl,rfl,by simp[World.setCell],λk o hn=>Below.heap_setCell w p u k ?_⟩;grind
theorem GrN.mono(h:GrN N w w')(hN:∀ k,k<w.heap.size->N k->N' k): GrN N' w w':=⟨h.os,h.tape,h.output,h.size,λk o hn=>h.block k o (λe=>hn (hN k o e))⟩
theorem GrN.old(h:GrN N w w')(hx:Ext a w)(hN:∀ k,N k->a.heap.size<=k): Ext a w' :=
 ⟨h.os.trans hx.os,h.tape.trans hx.tape,h.output.trans hx.output,Nat.le_trans hx.size h.size,λk o=>(h.block k (nM o hx.size) (λe=>by have:=hN k e;omega)).trans (hx.block k o)⟩
theorem GrN.toExt(h:GrN (λ_=>False) w w'): Ext w w':=⟨h.os,h.tape,h.output,h.size,λk o=>h.block k o (λe=>e)⟩
def Off(N:Nat->Prop)(w:World)(Φ:World->Prop): Prop:=∀ w',GrN N w w'->Φ w'
section
variable {N N':Nat->Prop} {w w':World} {Φ Ψ:World->Prop}
theorem Off.here(h:Off N w Φ): Φ w:=h w (GrN.refl N w)
theorem Off.gr(h:Off N w Φ)(hg:GrN N w w'): Off N w' Φ:=λo u=>h o (hg.trans u)
theorem Off.ext(h:Off N w Φ)(hx:Ext w w'): Off N w' Φ:=h.gr (GrN.ext hx)
theorem Off.mono(h:Off N w Φ)(hN:∀ k,k<w.heap.size->N' k->N k): Off N' w Φ:=λw' o=>h w' (o.mono hN)
theorem Off.imp(h:Off N w Φ)(hi:∀ u,Φ u->Ψ u): Off N w Ψ:=λw' o=>hi w' (h w' o)
theorem Off.and(h:Off N w Φ)(k:Off N w Ψ): Off N w (λu=>Φ u/\Ψ u):=λw' o=>⟨h w' o,k w' o⟩
theorem Off.grown(h:Off N w Φ)(hg:w.grownBy w' g)(hN:∀ k,g=some k->N k): Off N w' Φ:=h.gr (GrN.by hg hN)
theorem Off.set(h:Off N w Φ){p:Addr}(u:Value)(hp:N p.block): Off N (w.setCell p u) Φ:=h.gr (GrN.set u hp)
theorem Off.old{a:World}(hΦ:∀ u,Ext a u->Φ u)(hx:Ext a w)(hN:∀ k,N k->a.heap.size<=k): Off N w Φ:=λw' o=>hΦ w' (o.old hx hN)
theorem Vc{sz:Nat}(h:Rd w sz A n cs)(hg:GrN N w w')(hA:0<cs.length->∀ ad,A=some ad->¬ N ad.block): Rd w' sz A n cs :=
 ⟨h.1,λh0=>by
  obtain⟨ad,e,o,D⟩:=h.2 h0;refine⟨ad,e,Nat.lt_of_lt_of_le o hg.size,λj u C=>?_⟩;rw[<-D j u C];exact World.cell?_of_block (by rw[Ya];exact hg.block _ o (hA h0 ad e))⟩
theorem Ic{sz:Nat}(h:Rd w sz A n cs)(hA:0<cs.length->∀ ad,A=some ad->¬ N ad.block): Off N w (λu=>Rd u sz A n cs):=λw' o=>Vc h o hA
theorem Jv{g:Nat}{t:TypeId}(h:Blk w g t cs)(hg:GrN N w w')(hn:¬ N g): Blk w' g t cs:=(hg.block g h.lt hn).trans h
theorem Js{sz:Nat}(h:w.ownsRow base e sz v m xs)(hg:GrN N w w')(hn:∀ g,v.ownBlock=some g->¬ N g): w'.ownsRow base e sz v m xs:=by
 rcases h with⟨G,⟨rfl,rfl⟩|⟨g,D,C,rfl,hb,O,u,J,Z,ht⟩⟩
 .exact⟨G,.inl ⟨rfl,rfl⟩⟩
 refine⟨G,.inr ⟨g,D,C,rfl,hb,?_,u,J,Z,ht⟩⟩;have o:g<w.heap.size:=by grind
 rw[hg.block g o (hn g rfl)];exact O
theorem Jxj{sz:Nat}(h:w.ownsRow base e sz v m xs)(hn:∀ g,v.ownBlock=some g->¬ N g): Off N w (λu=>u.ownsRow base e sz v m xs):=λw' o=>Js h o hn
end
theorem Zh{P:Program}{al:AL}{tt:TT}[h:Tab P tt]{fn:Func}{Φ:Value->World->Prop}{c t t1 b:Nat}{k:TK}(hb:Blk w b t cs)(hp:Φ (.tuple #[.agg cs.toArray,x]) w)(hr:fn.results = #[.cell c t,.tmp t1]:=by rfl)(ht:tk tt t=some k:=by rfl)(hk:k.desc=.invalid:=by rfl)(hs:k.size=cs.length:=by rfl)(hc:lk al c=some (.pointer (some ⟨b,0,none⟩)):=by rfl)(h1:lk al t1=some x:=by rfl):
  QX n (Yx P fn Φ) .ret al w :=
 Jvb (rs:=[.cell c t,.tmp t1]) (vs:=[.agg cs.toArray,x]) hr ⟨⟨_,hc,Jqz h.ok ht hk hs (λj u o=>hb.at o)⟩,h1,trivial⟩ rfl hp
end Go.Wk
