/- Part 1. -/
import Derived.Test.YtebiphhfkdbpfaaGreatP00
import Derived.Test.YtebiphhfkdbpfaaGreatRows
import Derived.IntWalk
import Derived.Laws.Cover3
import Derived.Lib.Bytealg
import Derived.Sort.AssemblyPlain
import Derived.Laws.Bits64b
set_option linter.unusedVariables false
set_option maxRecDepth 100000
set_option maxHeartbeats 40000000
namespace Go.Proofs.YtebiphhfkdbpfaaGreat
namespace Pl
variable {a b l:List UInt32}{i m n:Nat}{c:UInt32}
def val: List UInt32->Nat
 | []=>0
 | c::l=>c.toNat+4294967296*val l
def Jj(n:Nat): List UInt32:=if h:n=0 then[] else UInt32.ofNat n::Jj (n / 4294967296)
termination_by n
decreasing_by exact Nat.div_lt_self om (by decide)
theorem limbs_0: Jj 0=[]:=by rw[Jj];rfl
theorem Jkg(h:n≠0): Jj n=UInt32.ofNat n::Jj (n / 4294967296):=by rw[Jj,dif_neg h]
theorem Jnf(h:c.toNat+4294967296*m≠0): Jj (c.toNat+4294967296*m)=c::Jj m:=by
 have u:=c.toNat_lt;grind [Jkg,UInt32.toNat_inj.1,UInt32.toNat_ofNat']
def Qs: List UInt32->List UInt32
 | []=>[]
 | c::l=>if Qs l=[]/\c=0 then[] else c::Qs l
theorem val_0(h:Qs l=[]): val l=0:=by
 induction l with
 | nil=>rfl
 | cons c l ih=>
  simp only[Qs]at h;split at h
  .rename_i h2;rw[val,ih h2.1,h2.2];rfl
  cases h
theorem Us: ∀ l:List UInt32,Qs l=Jj (val l)
 | []=>by rw[val,limbs_0];rfl
 | c::l=>by
  have ih:=Us l;simp only[Qs,val];split
  .rename_i h;rw[val_0 h.1,h.2];exact limbs_0.symm
  rename_i h;rw[Jnf,ih];intro h0;apply h
  have hv:val l=0:=om
  refine⟨?_,?_⟩
  .rw[ih,hv,limbs_0]
  apply UInt32.toNat_inj.1
  grind
theorem Zf(n:Nat): val (Jj n)=n:=by
 induction n using Nat.strongRecOn with
 | ind n ih=>
  grind [limbs_0,Jkg,val,Nat.div_lt_self,UInt32.toNat_ofNat']
theorem Qqx(n:Nat): Qs (Jj n)=Jj n:=by rw[Us,Zf]
theorem Jfl(l:List UInt32): Qs (l++[0])=Qs l:=by
 induction l with
 | nil=>rfl
 | cons c l ih=>simp only[List.cons_append,Qs,ih]
theorem Qqw(l:List UInt32)(h:c≠0): Qs (l++[c])=l++[c]:=by
 induction l with
 | nil=>simp[Qs,h]
 | cons d l ih=>simp only[List.cons_append,Qs,ih];simp
theorem Uq(a b:List UInt32): val (a++b)=val a+4294967296^a.length*val b:=by
 induction a with
 | nil=>simp[val]
 | cons c a ih=>rw[List.cons_append,val,val,ih,List.length_cons,Nat.pow_succ,Nat.mul_add,<-Nat.mul_assoc,Nat.mul_comm (4294967296^a.length) 4294967296];omega
theorem Jjt(a:List UInt32): val a<4294967296^a.length:=by
 induction a with
 | nil=>simp[val]
 | cons c a ih=>
  have u:c.toNat<4294967296:=c.toNat_lt;grind [val,List.length_cons,Nat.pow_succ,Nat.mul_le_mul_left,Nat.mul_comm]
theorem Qqp(l:List UInt32)(h:c≠0): 4294967296^l.length<=val (l++[c]):=by
 have u:0<c.toNat:=by
  rcases Nat.eq_zero_or_pos c.toNat with h0|h0
  .exact absurd (UInt32.toNat_inj.1 h0) h
  exact h0
 rw[Uq,val];have:4294967296^l.length*1<=4294967296^l.length*(c.toNat+4294967296*val []):=Nat.mul_le_mul_left _ om;omega
theorem Jnd(h:n≠0): ∃ l c,Jj n=l++[c]/\c≠0:=by
 rcases List.eq_nil_or_concat (Jj n) with h0|⟨l,c,h0⟩
 .have:=Zf n;rw[h0]at this;exact absurd this.symm h
 refine⟨l,c,by rw[h0];simp,λD=>?_⟩;subst D;have u:=Qqx n;rw[h0,List.concat_eq_append,Jfl]at u;have y:=congrArg List.length u;have F:(Qs l).length<=l.length:=by
  clear u y h0;induction l with
  | nil=>simp[Qs]
  | cons c l ih=>simp only[Qs];split<;>simp;exact ih
 simp at y;omega
theorem Jkh(h:n≠0): 4294967296^((Jj n).length-1)<=n:=by
 obtain⟨l,c,y,u⟩:=Jnd h;grind [Qqp,Zf]
theorem Qdq(n:Nat): n<4294967296^(Jj n).length:=by grind [Jjt,Jj,Zf]
theorem Jmw(h:(Jj n).length<(Jj m).length): n<m:=by
 have u:m≠0:=by grind [limbs_0]
 have F:=Jkh u;have D:=Qdq n;have y:4294967296^(Jj n).length<=4294967296^((Jj m).length-1):=Nat.pow_le_pow_right (by decide) om;omega
def Vg(n m:Nat): Int:=if n<m then -1 else if m<n then 1 else 0
theorem Qqn(ha:i<a.length)(hab:a.length=b.length)(ht:a.drop (i+1)=b.drop (i+1))(hl:(a.getD i 0).toNat<(b.getD i 0).toNat): val a<val b:=by
 have J:i<b.length:=om
 have G:a=a.take i++(a.getD i 0::a.drop (i+1)):=by grind [List.getD,List.getElem?_eq_getElem,List.drop_eq_getElem_cons,List.take_append_drop]
 have F:b=b.take i++(b.getD i 0::b.drop (i+1)):=by grind [List.getD,List.getElem?_eq_getElem,List.drop_eq_getElem_cons,List.take_append_drop]
 rw[G,F,Uq,Uq,val,val,ht];have D:(a.take i).length=i:=by grind
 have y:(b.take i).length=i:=by grind
 have u:=Jjt (a.take i);rw[D]at u ⊢;rw[y];have:4294967296^i*((a.getD i 0).toNat+1+4294967296*val (b.drop (i+1)))<=4294967296^i*((b.getD i 0).toNat+4294967296*val (b.drop (i+1))):=Nat.mul_le_mul_left _ om;grind
end Pl
open Go.RowKit Go.Wk
def tt: TT:=[
 (3,{ desc:=.int .i64 }),
 (2,{ desc:=.int .i64 }),
 (5,{ desc:=.int .u8 }),
 (25,{ desc:=.int .u32 }),
 (95,{ desc:=.int .u64 }),
 (138,{ desc:=.int .u64 }),
 (4,{ desc:=.bool }),
 (38,{ desc:=.int .i64 }),
 (231,{ desc:=.int .i64 }),
 (248,{ desc:=.int .u64 }),
 (82,{ desc:=.slice 25,esz:=1 }),
 (143,{ desc:=.slice 4,esz:=1 }),
 (28,{ desc:=.slice 3,esz:=1 }),
 (61,{ desc:=.slice 5,esz:=1 }),
 (81,{ desc:=.slice 25,esz:=1 }),
 (73,{ desc:=.slice 75,esz:=3 }),
 (72,{ desc:=.slice 75,esz:=3 }),
 (33,{ desc:=.slice 73,esz:=1 }),
 (62,{ desc:=.slice 69,esz:=3 }),
 (26,{ desc:=.slice 37,esz:=3 }),
 (192,{ desc:=.slice 198,esz:=1 }),
 (189,{ desc:=.slice 192,esz:=1 }),
 (193,{ desc:=.slice 219,esz:=2 }),
 (75,{ desc:=.invalid,size:=3,offs:=[0,1,2] }),
 (35,{ desc:=.invalid,size:=2,offs:=[0,1] }),
 (37,{ desc:=.invalid,size:=3,offs:=[0,1] }),
 (69,{ desc:=.invalid,size:=3,offs:=[0,1,2] }),
 (90,{ desc:=.invalid,size:=2,offs:=[0,1] }),
 (191,{ desc:=.invalid,size:=4,offs:=[0,1,2,3] }),
 (219,{ desc:=.invalid,size:=2,offs:=[0,1] }),
 (195,{ desc:=.invalid,size:=1,offs:=[0] }),
 (221,{ desc:=.invalid,size:=2,offs:=[0,1] }),
 (224,{ desc:=.invalid,size:=69,offs:=[0,1,2,4,68] }),
 (188,{ desc:=.pointer 191 }),
 (198,{ desc:=.pointer 224 }),
 (252,{ desc:=.pointer 3 }),
 (256,{ desc:=.pointer 248 }),
 (150,{ desc:=.array 32 3,size:=32,esz:=1 }),
 (151,{ desc:=.array 32 25,size:=32,esz:=1 }),
 (222,{ desc:=.array 32 221,size:=64,esz:=2 }),
 (103,{ desc:=.func #[73] #[4] false }),
 (80,{ desc:=.slice 84,esz:=3 }),
 (120,{ desc:=.slice 80,esz:=1 }),
 (22,{ desc:=.slice 71,esz:=4 }),
 (31,{ desc:=.slice 24,esz:=3 }),
 (27,{ desc:=.slice 46,esz:=2 }),
 (54,{ desc:=.slice 141,esz:=3 }),
 (53,{ desc:=.slice 141,esz:=3 }),
 (44,{ desc:=.slice 54,esz:=1 }),
 (84,{ desc:=.invalid,size:=3,offs:=[0,1,2] }),
 (86,{ desc:=.invalid,size:=5,offs:=[0,1,2] }),
 (122,{ desc:=.invalid,size:=3,offs:=[0,1,2] }),
 (126,{ desc:=.invalid,size:=7,offs:=[0,1,2,3,4] }),
 (168,{ desc:=.invalid,size:=5,offs:=[0,1,2,3,4] }),
 (24,{ desc:=.invalid,size:=3,offs:=[0,1,2] }),
 (46,{ desc:=.invalid,size:=2,offs:=[0,1] }),
 (141,{ desc:=.invalid,size:=3,offs:=[0,1,2] }),
 (162,{ desc:=.pointer 168 }),
 (71,{ desc:=.array 4 5,size:=4,esz:=1 }),
 (59,{ desc:=.array 2 25,size:=2,esz:=1 }),
 (98,{ desc:=.array 32 4,size:=32,esz:=1 }),
 (160,{ desc:=.map 25 4 }),
 (175,{ desc:=.func #[3,84] #[] false }),
 (174,{ desc:=.func #[82,82] #[82] false }),
 (184,{ desc:=.func #[3] #[4] false }),
 (9,{ desc:=.string })]
theorem Kt: TOk Tryz.prog tt:=⟨
 ⟨kr,kr⟩,
 ⟨kr,kr⟩,
 ⟨kr,kr⟩,
 ⟨kr,kr⟩,
 ⟨kr,kr⟩,
 ⟨kr,kr⟩,
 ⟨kr,kr⟩,
 ⟨kr,kr⟩,
 ⟨kr,kr⟩,
 ⟨kr,kr⟩,
 ⟨kr,kr,kr⟩,
 ⟨kr,kr,kr⟩,
 ⟨kr,kr,kr⟩,
 ⟨kr,kr,kr⟩,
 ⟨kr,kr,kr⟩,
 ⟨kr,kr,kr⟩,
 ⟨kr,kr,kr⟩,
 ⟨kr,kr,kr⟩,
 ⟨kr,kr,kr⟩,
 ⟨kr,kr,kr⟩,
 ⟨kr,kr,kr⟩,
 ⟨kr,kr,kr⟩,
 ⟨kr,kr,kr⟩,
 ⟨_,Tryz.underlying75,kr,kr⟩,
 ⟨_,Tryz.underlying35,kr,kr⟩,
 ⟨_,Tryz.underlying37,kr,kr⟩,
 ⟨_,Tryz.underlying69,kr,kr⟩,
 ⟨_,Tryz.underlying90,kr,kr⟩,
 ⟨_,Tryz.underlying191,kr,kr⟩,
 ⟨_,Tryz.underlying219,kr,kr⟩,
 ⟨_,Tryz.underlying195,kr,kr⟩,
 ⟨_,Tryz.underlying221,kr,kr⟩,
 ⟨_,Tryz.underlying224,kr,kr⟩,
 ⟨kr,kr⟩,
 ⟨kr,kr⟩,
 ⟨kr,kr⟩,
 ⟨kr,kr⟩,
 ⟨kr,kr,kr⟩,
 ⟨kr,kr,kr⟩,
 ⟨kr,kr,kr⟩,
 ⟨kr,kr⟩,
 ⟨kr,kr,kr⟩,
 ⟨kr,kr,kr⟩,
 ⟨kr,kr,kr⟩,
 ⟨kr,kr,kr⟩,
 ⟨kr,kr,kr⟩,
 ⟨kr,kr,kr⟩,
 ⟨kr,kr,kr⟩,
 ⟨kr,kr,kr⟩,
 ⟨_,Tryz.underlying84,kr,kr⟩,
 ⟨_,Tryz.underlying86,kr,kr⟩,
 ⟨_,Tryz.underlying122,kr,kr⟩,
 ⟨_,Tryz.underlying126,kr,kr⟩,
 ⟨_,Tryz.underlying168,kr,kr⟩,
 ⟨_,Tryz.underlying24,kr,kr⟩,
 ⟨_,Tryz.underlying46,kr,kr⟩,
 ⟨_,Tryz.underlying141,kr,kr⟩,
 ⟨kr,kr⟩,
 ⟨kr,kr,kr⟩,
 ⟨kr,kr,kr⟩,
 ⟨kr,kr,kr⟩,
 ⟨kr,kr⟩,
 ⟨kr,kr⟩,
 ⟨kr,kr⟩,
 ⟨kr,kr⟩,
 ⟨kr,kr⟩,
 trivial⟩
theorem mixed: Tryz.prog.follows .mixedOrders=true:=kr
instance:Tab Tryz.prog tt:=⟨Kt,mixed⟩
theorem EN: ElT Tryz.prog 82 25 1 4 (.int .u32 0):=⟨Tryz.underlying82,info_parts kr,rfl,by decide⟩
theorem EV: ElT Tryz.prog 73 75 3 32 (.agg #[.int .i64 0,.int .i64 0,.string ⟨#[]⟩]):=⟨Tryz.underlying73,info_parts kr,rfl,by decide⟩
theorem ER: ElT Tryz.prog 33 73 1 24 (.slice none 0 0):=⟨Tryz.underlying33,info_parts kr,rfl,by decide⟩
theorem bsN(x y:Int)(w:World): (Instr.buildSlice 82 2 #[(0,.int .u32 x),(1,.int .u32 y)]).run Tryz.prog w=.ok (.slice (some ⟨w.heap.size,0,none⟩) 2 2) (w.alloc (.cells #[.int .u32 x,.int .u32 y] 25)):=kr
open Go.RowKit Pl Go.Wk
attribute [local irreducible] WC WL QX WD WDB
variable {l:List UInt32}{c k m n:Nat}{A:Option Addr}{a b:UInt32}{u v:Value}{w:World}
def Nc(l:List UInt32): List Value:=l.map λc=>.int .u32 (c.toNat:Int)
theorem Qpq(l:List UInt32): (Nc l).length=l.length:=by simp[Nc]
theorem Xk(h:k<l.length): (Nc l)[k]?=some (.int .u32 ((l.getD k 0).toNat:Int)):=by simp[Nc,List.getD,List.getElem?_eq_getElem h]
theorem Qpp(l:List UInt32)(k:Nat): (Nc l).take k=Nc (l.take k):=by simp[Nc]
theorem Jwr(l:List UInt32): ∀ u∈Nc l,u.oneCell'=true:=by
 intro u y;simp[Nc]at y;obtain⟨c,_,rfl⟩:=y;rfl
def NatV(w:World)(v:Value)(n:Nat): Prop:=∃ A c,v=.slice A (Jj n).length c/\(Jj n).length<=c/\(Jj n).length<=4611686018427387904/\Rd w 1 A (Jj n).length (Nc (Jj n))
theorem NatV.ext{w w':World}{v:Value}{n:Nat}(h:NatV w v n)(hx:Ext w w'): NatV w' v n:=by
 obtain⟨A,c,F,D,y,u⟩:=h;exact⟨A,c,F,D,y,u.ext hx⟩
theorem NatV.nil(w:World): NatV w (.slice none 0 0) 0:=⟨none,0,by rw[limbs_0];rfl,by rw[limbs_0];simp,by rw[limbs_0];simp,by rw[limbs_0];exact Rd.nil⟩
theorem Jvc: ∀ l:List UInt32,Qs l=l.take (Qs l).length
 | []=>rfl
 | c::l=>by
  simp only[Qs];split
  .rfl
  rw[List.length_cons,List.take_succ_cons,<-Jvc l]
theorem Jfm(l:List UInt32): (Qs l).length<=l.length:=by grind [List.length,Jvc,List.length_take]
theorem Ka(hr:Rd w 1 A l.length (Nc l))(hm:l.length<=4611686018427387904): NatV w (.slice A (Jj (val l)).length (Jj (val l)).length) (val l):=by
 have h:=hr.take (m:=(Qs l).length) (Jfm l);rw[Nat.mul_one,Qpp,<-Jvc]at h;have:=Jfm l;rw[<-Us];exact⟨A,(Qs l).length,by rw[<-Us],by rw[<-Us];exact nR _,by rw[<-Us];omega,by grind [Us]⟩
theorem Gc(hr:Rd w 1 A l.length (Nc l))(hc:l.length<=c)(hm:l.length<=4611686018427387904):
  Ret Tryz.prog 60 [.slice A l.length c] w λv w'=>v=.slice A (Jj (val l)).length (Jj (val l)).length/\w'=w:=by
 refine Jz Tryz.func60 Tryz.ntmps60 rfl kr rfl ?_;refine ρ ?_;have F:∀ k,k<=l.length->Qs (l.take k)=Qs l->Qs (l.take k)=l.take k->k=(Jj (val l)).length:=λk D h1 Z=>by grind [Us,List.length_take]
 refine Jl (λk=>[(0,.slice A l.length c),(3,.int .i64 ((k:Nat):Int))]) (λk w'=>w'=w/\k<=l.length/\Qs (l.take k)=Qs l) (λk=>k) l.length sB ⟨rfl,Nat.le_refl _,by rw[List.take_length]⟩ ?_;rintro k w' ⟨rfl,D,hn⟩;have done:∀ k,k=(Jj (val l)).length->k<=l.length->(Value.slice A k k)=.slice A (Jj (val l)).length (Jj (val l)).length:=λk h _=>by rw[h]
 refine ρ ?_;refine ki 8 (λh=>?_) (λh=>?_)
 .have U:0<k:=by have:=oT h;omega
  have y:k-1<l.length:=om
  have G:l.take k=l.take (k-1)++[l.getD (k-1) 0]:=by grind [List.take_succ_eq_append_getElem,List.getD,List.getElem?_eq_getElem]
  refine ρ ?_;refine ix (k-1) hr y ?_;refine ρ ?_;refine ld (hr.cell (Xk y)) ?_;refine ρ ?_;refine ci (λh0=>?_) (λh0=>?_)
  .have O:l.getD (k-1) 0=0:=by
    have:=Yp h0;apply UInt32.toNat_inj.1
    grind
   refine ρ ?_;refine Jg (k-1) sO ⟨rfl,om,?_⟩ om;rw[<-hn,G,O,Jfl]
  have O:l.getD (k-1) 0≠0:=by
   have:=Vr h0;intro e;rw[e]at this;exact this rfl
  have u:=F k D hn (by grind [Qqw]);refine ρ ?_;refine Jxn Kt 0 k k A k k rfl rfl rfl rfl rfl ⟨_,_,rfl,rfl⟩ ⟨_,_,rfl,rfl⟩ (.inr (by simp)) (Nat.zero_le _) (nR _) om (cut0 A _ _) rfl rfl rfl ?_;refine ρ ?_;exact Jq ⟨done k u D,rfl⟩
 have J:k=0:=by have:=oF h;omega
 subst J;have u:=F 0 D hn rfl;refine ρ ?_;refine Jxn Kt 0 0 0 A 0 0 rfl rfl rfl rfl rfl ⟨_,_,rfl,rfl⟩ ⟨_,_,rfl,rfl⟩ (.inr (by simp)) (Nat.zero_le _) (nR _) om (cut0 A _ _) rfl rfl rfl ?_;refine ρ ?_;exact Jq ⟨done 0 u D,rfl⟩
theorem Zt(h:NatV w v n): Ret Tryz.prog 60 [v] w λv' w'=>(∃ A,v'=.slice A (Jj n).length (Jj n).length/\Rd w 1 A (Jj n).length (Nc (Jj n)))/\w'=w:=by
 obtain⟨A,c,rfl,D,y,u⟩:=h;refine(Gc u D y).mono ?_;grind [Zf]
theorem Yz(n:Nat): IntKind.u32.wrap (n:Int)=((UInt32.ofNat n).toNat:Int):=by
 rw[UInt32.toNat_ofNat',IntKind.wrap_u32];omega
theorem Jfk(n:Nat): IntKind.u32.wrap ((n:Int).fdiv (2^min (32:Int).toNat IntKind.u64.bits))=((UInt32.ofNat (n / 4294967296)).toNat:Int):=by
 have e:(2:Int)^min (32:Int).toNat IntKind.u64.bits=((4294967296:Nat):Int):=by decide
 rw[e,Int.fdiv_eq_ediv_of_nonneg _ (Int.natCast_nonneg _),UInt32.toNat_ofNat',IntKind.wrap_u32];omega
theorem Jfd(n:Nat)(h:n<18446744073709551616): val [UInt32.ofNat n,UInt32.ofNat (n / 4294967296)]=n:=by grind [val,UInt32.toNat_ofNat']
theorem Qch(n:Nat)(h:n<18446744073709551616)(w:World): Ret Tryz.prog 30 [.int .u64 (n:Int)] w λv w'=>NatV w' v n/\Ext w w':=by
 refine Jz Tryz.func30 Tryz.ntmps30 rfl kr rfl ?_;refine ρ ?_;refine Zs rfl rfl (by decide) rfl ?_;refine ρ ?_;refine bsl (bsN _ _) ?_;intro w1 b y F u;rw[Yz,Jfk]at u;have D:Rd w1 1 (some ⟨b,0,none⟩) 2 (Nc [UInt32.ofNat n,UInt32.ofNat (n / 4294967296)]):=u.rd rfl;refine ρ ?_;refine cl (Gc (l:=[UInt32.ofNat n,UInt32.ofNat (n / 4294967296)]) (c:=2) D (nR _) (by simp)) ?_;rintro v w2 ⟨rfl,rfl⟩;have:=Ka D (by simp);rw[Jfd n h]at this ⊢;refine ρ ?_;exact Jq ⟨this,y⟩
def sgn(a b:Int): Int:=if a<b then -1 else if b<a then 1 else 0
theorem Jnn(x:Int)(w:World): Ret Tryz.prog 108 [.int .i64 x] w λv w'=>v=.bool false/\w'=w:=by
 refine Jz Tryz.func108 Tryz.ntmps108 rfl kr rfl ?_;refine ρ ?_;refine Jq ⟨?_,rfl⟩;simp
theorem Jch(x y:Int)(w:World): Ret Tryz.prog 61 [.int .i64 x,.int .i64 y] w λv w'=>v=.int .i64 (sgn x y)/\w'=w:=by
 refine Jz Tryz.func61 Tryz.ntmps61 rfl kr rfl ?_;refine ρ ?_;refine cl (Jnn x w) ?_;rintro v w' ⟨rfl,rfl⟩;refine ρ ?_;refine cl (Jnn y w') ?_;rintro v u ⟨rfl,rfl⟩;refine ρ ?_;refine ci (λh=>?_) (λh=>?_)
 .refine ρ ?_;refine Jq ⟨?_,rfl⟩;grind [sgn]
 refine ρ ?_;refine ci (λD=>?_) (λD=>?_)
 .refine ρ ?_;refine Jq ⟨?_,rfl⟩;grind [sgn]
 refine ρ ?_;refine Jq ⟨?_,rfl⟩;grind [sgn]
theorem Jnm(x:Int)(w:World): Ret Tryz.prog 109 [.int .u32 x] w λv w'=>v=.bool false/\w'=w:=by
 refine Jz Tryz.func109 Tryz.ntmps109 rfl kr rfl ?_;refine ρ ?_;refine Jq ⟨?_,rfl⟩;simp
theorem Qlh(x y:Int)(w:World): Ret Tryz.prog 62 [.int .u32 x,.int .u32 y] w λv w'=>v=.int .i64 (sgn x y)/\w'=w:=by
 refine Jz Tryz.func62 Tryz.ntmps62 rfl kr rfl ?_;refine ρ ?_;refine cl (Jnm x w) ?_;rintro v w' ⟨rfl,rfl⟩;refine ρ ?_;refine cl (Jnm y w') ?_;rintro v u ⟨rfl,rfl⟩;refine ρ ?_;refine ci (λh=>?_) (λh=>?_)
 .refine ρ ?_;refine Jq ⟨?_,rfl⟩;grind [sgn]
 refine ρ ?_;refine ci (λD=>?_) (λD=>?_)
 .refine ρ ?_;refine Jq ⟨?_,rfl⟩;grind [sgn]
 refine ρ ?_;refine Jq ⟨?_,rfl⟩;grind [sgn]
theorem Jnp(x:Int)(w:World): Ret Tryz.prog 181 [.int .i64 x] w λv w'=>v=.bool false/\w'=w:=by
 refine Jz Tryz.func181 Tryz.ntmps181 rfl kr rfl ?_;refine ρ ?_;refine Jq ⟨?_,rfl⟩;simp
theorem Qlj(x y:Int)(w:World): Ret Tryz.prog 172 [.int .i64 x,.int .i64 y] w λv w'=>v=.int .i64 (sgn x y)/\w'=w:=by
 refine Jz Tryz.func172 Tryz.ntmps172 rfl kr rfl ?_;refine ρ ?_;refine cl (Jnp x w) ?_;rintro v w' ⟨rfl,rfl⟩;refine ρ ?_;refine cl (Jnp y w') ?_;rintro v u ⟨rfl,rfl⟩;refine ρ ?_;refine ci (λh=>?_) (λh=>?_)
 .refine ρ ?_;refine Jq ⟨?_,rfl⟩;grind [sgn]
 refine ρ ?_;refine ci (λD=>?_) (λD=>?_)
 .refine ρ ?_;refine Jq ⟨?_,rfl⟩;grind [sgn]
 refine ρ ?_;refine Jq ⟨?_,rfl⟩;grind [sgn]
theorem Jgk(n m:Nat): sgn (n:Int) (m:Int)=Vg n m:=by grind [sgn,Vg]
theorem Qqs(h:((a.toNat:Int) != (b.toNat:Int))=false): a=b:=by grind [UInt32.toNat_inj.1]
theorem Qqr(h:((a.toNat:Int) != (b.toNat:Int))=true): a.toNat≠b.toNat:=by grind
theorem Jqp(hv:NatV w v n)(hu:NatV w u m): Ret Tryz.prog 29 [v,u] w λr w'=>r=.int .i64 (Vg n m)/\Ext w w':=by
 have a2:=hv;have a3:=hu;obtain⟨_,_,_,_,a8,_⟩:=a2;obtain⟨_,_,_,_,a9,_⟩:=a3;refine Jz Tryz.func29 Tryz.ntmps29 rfl kr rfl ?_;refine ρ ?_;refine cl (Zt hv) ?_;rintro v' w' ⟨⟨A,rfl,ha⟩,rfl⟩;refine ρ ?_;refine cl (Zt hu) ?_;rintro u' a1 ⟨⟨B,rfl,hb⟩,rfl⟩;refine ρ ?_;refine ci (λh=>?_) (λh=>?_)
 .refine ρ ?_;refine cl (Jch _ _ _) ?_;rintro t w1 ⟨rfl,rfl⟩;refine ρ ?_;refine Jq ⟨?_,Ext.refl _⟩;grind [Jgk,Jj,Vg,Nat.lt_or_gt_of_ne,Jmw]
 have a6:(Jj n).length=(Jj m).length:=by grind
 refine ρ ?_;refine Jl (λk=>[(0,.slice A (Jj n).length (Jj n).length),(1,.slice B (Jj m).length (Jj m).length),(5,.int .i64 ((k:Nat)-1:Int))]) (λk w'=>Ext a1 w'/\k<=(Jj n).length/\(Jj n).drop k=(Jj m).drop k) (λk=>k) (Jj n).length sB
  ⟨Ext.refl _,Nat.le_refl _,by grind⟩ ?_
 rintro k w1 ⟨hx,hk,hd⟩;refine ρ ?_;refine ci (λh=>?_) (λh=>?_)
 .have a5:0<k:=by have:=oT h;omega
  have G:k-1<(Jj n).length:=om
  have F:k-1<(Jj m).length:=om
  have D:=hx.trans ((Ext.refl w1).drew);have Z:=ha.ext D;have O:=hb.ext D;refine ρ ?_;refine dr [(0,0),(0,1),(0,2),(0,3),(0,4),(0,5),(0,6),(0,7),(0,8)] kr ?_;refine ρd ?_;refine dix (k-1) Z G ?_;refine ρd ?_;refine dld (Z.cell (Xk G)) ?_;refine ρd ?_;refine dix (k-1) O F ?_;refine ρd ?_;refine dld (O.cell (Xk F)) ?_;refine ρd ?_;refine ρ ?_;refine ci (λh=>?_) (λh=>?_)
  .have a7:=Qqr h;have y:=D.trans ((Ext.refl w1.drew).drew);have U:=ha.ext y;have J:=hb.ext y;refine ρ ?_;refine dr [(0,0),(0,1),(0,2),(0,3),(0,4),(0,5),(0,6),(0,7),(1,8),(0,9)] kr ?_;refine ρd ?_;refine dix (k-1) U G ?_;refine ρd ?_;refine dld (U.cell (Xk G)) ?_;refine ρd ?_;refine dix (k-1) J F ?_;refine ρd ?_;refine dld (J.cell (Xk F)) ?_;refine ρd ?_;refine dcl (Qlh _ _ _) ?_;rintro t w2 ⟨rfl,rfl⟩;refine⟨Ext.refl _,?_⟩;refine ρd ?_;refine ρ ?_;refine Jq ⟨?_,y⟩;grind [Jgk,Vg,Jj,Nat.lt_or_gt_of_ne,Qqn,Zf]
  have he:=Qqs h;refine ρ ?_;refine Jg (k-1) sO ⟨D,om,?_⟩ om;grind [List.drop_eq_getElem_cons,Jj,List.getD,List.getElem?_eq_getElem]
 have a4:k=0:=by have:=oF h;omega
 subst a4;have:n=m:=by grind [Zf,val]
 subst this;refine ρ ?_;refine Jq ⟨?_,hx⟩;simp[Vg]
end Go.Proofs.YtebiphhfkdbpfaaGreat
namespace Go.Wk
open Go.RowKit
variable {c e m t t2:Nat}
section
variable {P:Program} {n:Nat} {al:AL} {w:World} {Q:Exit->Act->World->Prop} {ops:Array Oper} {rest:List Oper}
variable {d ty:Nat} {op:Op} {pos:String} {aft:Array Edge} {tt:TT}
theorem snil[h:Tab P tt]{x:Operand}{k:TK}{A:Option Addr}(kk:WL P n ops Q rest ((d,.bool A.isNone)::al) w)(ht:tk tt t=some k:=by rfl)(hk:k.desc=.slice e:=by rfl)(hx:ev al x=some (.slice A m c):=by rfl)(hd:Nat.blt d n=true:=by rfl): WL P n ops Q (⟨some d,.binOp .eql t x (.const (.slice none 0 0)) t2,ty,pos,aft,none⟩::rest) al w :=
 wop hd (λa y=>by
  have u:=(Ua h.ok ht hk rfl).1;have D:a.eval (.const (.slice none 0 0))=.slice none 0 0:=rfl;simp[execOp,y.ev hx,D,eqGuard,binOp,run_equal_slice_nil w t e A m c u]) kk
end
end Go.Wk
namespace Go.Proofs.YtebiphhfkdbpfaaGreat
open Go.RowKit Pl Go.Wk
attribute [local irreducible] WC WL QX WD WDB
theorem EB: ElT Tryz.prog 143 4 1 1 (.bool false):=⟨Tryz.underlying143,info_parts kr,rfl,by decide⟩
theorem EI: ElT Tryz.prog 28 3 1 8 (.int .i64 0):=⟨Tryz.underlying28,info_parts kr,rfl,by decide⟩
theorem Jss(w:World): (Instr.buildSlice 73 0 #[]).run Tryz.prog w=.ok (.slice (some ⟨w.heap.size,0,none⟩) 0 0) (w.alloc (.cells ([]:List Value).toArray 75)):=kr
theorem Jst(w:World): (Instr.buildSlice 82 0 #[]).run Tryz.prog w=.ok (.slice (some ⟨w.heap.size,0,none⟩) 0 0) (w.alloc (.cells ([]:List Value).toArray 25)):=kr
theorem Qmm{A:Option Addr}{n c:Nat}{cs:List Value}{w:World}(hr:Rd w 1 A n cs)(h1:∀ u∈cs,u.oneCell'=true)(hb:n*4<=140737488355328):
  Ret Tryz.prog 131 [.slice A n c] w λv w'=>(∃ A' c',v=.slice A' n c'/\n<=c'/\Rd w' 1 A' n cs)/\Ext w w':=by
 refine Jz Tryz.func131 Tryz.ntmps131 rfl kr rfl ?_;refine ρ ?_;refine snil ?_;refine ρ ?_;refine ci (λh=>?_) (λh=>?_)
 .have U:A=none:=by simpa using h
  subst U;have hn:n=0:=by
   rcases Nat.eq_zero_or_pos n with h0|h0
   .exact h0
   obtain⟨ad,Z,_⟩:=hr.isome h0 om;cases Z
  subst hn;refine ρ ?_;exact Jq ⟨⟨none,0,rfl,Nat.le_refl _,hr⟩,Ext.refl w⟩
 refine ρ ?_;refine bsl Jst ?_;intro w1 b D O J;refine ρ ?_;refine apo D EN (J.own (n:=0) O rfl (Nat.zero_le _)) (hr.ext D) h1 (by unfold maxLen;omega) om ?_;intro v2 w2 y G _ _;obtain⟨A2,c2,rfl,F,_⟩:=Jy y;refine ρ ?_;rw[Nat.zero_add]at y F ⊢;exact Jq ⟨⟨A2,c2,rfl,F,Rd.own y⟩,G⟩
open Go.RowKit Pl Go.Wk
variable {a n:Nat}{v:Value}{w:World}
theorem Jmd(hv:NatV w v n)(hs:(Jj n).length<=1000): Ret Tryz.prog 103 [v] w λr w'=>NatV w' r n/\Ext w w':=by
 refine Jz Tryz.func103 Tryz.ntmps103 rfl kr rfl ?_;refine ρ ?_;refine cl (Zt hv) ?_;rintro u w' ⟨⟨A,rfl,G⟩,rfl⟩;refine ρ ?_;refine cl (Qmm G (Jwr _) om) ?_;rintro u w1 ⟨⟨O,J,rfl,F,D⟩,y⟩;refine ρ ?_;exact Jq ⟨⟨O,J,rfl,F,om,D⟩,y⟩
theorem Qm(h:n<18446744073709551616): (Jj n).length<=2:=by grind [Nat.lt_or_ge,Jj,limbs_0,Jkh,Nat.pow_le_pow_right]
theorem Qbc(k:Nat)(hk:k<2)(h:a<4294967296^k)(c:UInt32): bits .or .u64 (a:Int) (IntKind.u64.wrap (IntKind.u64.wrap (c.toNat:Int)*2^min (32*(k:Int)).toNat IntKind.u64.bits))=((a+4294967296^k*c.toNat:Nat):Int):=by
 have J:c.toNat<4294967296:=c.toNat_lt;have y:IntKind.u64.wrap (c.toNat:Int)=(c.toNat:Int):=by rw[IntKind.wrap_u64];omega
 rw[y];match k,hk with
 | 0,_=>
  have D:a=0:=by simpa using h
  subst D;have u:(2:Int)^min (32*((0:Nat):Int)).toNat IntKind.u64.bits=1:=by decide
  rw[u,Int.mul_one,y];have:=u64_or_nat 0 c.toNat om om;grind
 | 1,_=>
  have u:(2:Int)^min (32*((1:Nat):Int)).toNat IntKind.u64.bits=4294967296:=by decide
  have G:IntKind.u64.wrap ((c.toNat:Int)*4294967296)=((c.toNat*4294967296:Nat):Int):=by rw[IntKind.wrap_u64];omega
  have F:a<4294967296:=by simpa using h
  rw[u,G,u64_or_nat _ _ om om];have:=nat_join 32 (c.toNat*4294967296) a (by simp) F;grind
theorem Jyr(hv:NatV w v n)(h:n<18446744073709551616): Ret Tryz.prog 97 [v] w λr w'=>r=.tuple #[.int .u64 (n:Int),.bool true]/\w'=w:=by
 have U:=Qm h;refine Jz Tryz.func97 Tryz.ntmps97 rfl kr rfl ?_;refine ρ ?_;refine cl (Zt hv) ?_;rintro O w' ⟨⟨A,rfl,G⟩,rfl⟩;refine ρ ?_;refine Jdz rfl (dF om) ?_;refine ρ ?_;refine Jl (λk=>[(4,.int .u64 ((val ((Jj n).take k):Nat):Int)),(0,.slice A (Jj n).length (Jj n).length),(12,.int .i64 ((Jj n).length:Int)),(13,.int .i64 ((k:Nat):Int))]) (λk w1=>w1=w'/\k<=(Jj n).length) (λk=>(Jj n).length-k) 0 sB ⟨rfl,Nat.zero_le _⟩ ?_;rintro k w1 ⟨rfl,Z⟩;refine ρ ?_;refine ci (λh=>?_) (λh=>?_)
 .have u:k<(Jj n).length:=by have:=oT h;omega
  refine ρ ?_;refine ix k G u ?_;refine ρ ?_;refine ld (G.cell (Xk u)) ?_;refine ρ ?_;refine wshl rfl rfl om rfl ?_;refine ρ ?_;have y:=Jjt ((Jj n).take k);have D:((Jj n).take k).length=k:=by rw[List.length_take];omega
  rw[D]at y;have J:(Jj n).take (k+1)=(Jj n).take k++[(Jj n).getD k 0]:=by grind [List.take_succ_eq_append_getElem,List.getD,List.getElem?_eq_getElem]
  refine Jg (k+1) (Sub.cons (congrArg (λz=>some (Value.int .u64 z)) ?_) sB) ⟨rfl,om⟩ om;grind [Qbc,Uq,val]
 have F:k=(Jj n).length:=by have:=oF h;omega
 subst F;refine ρ ?_;refine Xx ⟨?_,rfl⟩;rw[List.take_length,Zf]
open Go.RowKit Pl Go.Wk
variable {a b os:List UInt32}{c i m n s x y:Nat}{u v:Value}{w:World}
theorem Yr(z:Value)(n:Nat): (madeCells #[z] n).toList=List.replicate n z:=by
 unfold madeCells;apply List.ext_getElem
 repeat grind
theorem Jwq(n:Nat): List.replicate n (Value.int .u32 0)=Nc (List.replicate n 0):=by simp[Nc]
theorem Kd(l:List UInt32)(i:Nat)(c:UInt32): (Nc l).set i (.int .u32 (c.toNat:Int))=Nc (l.set i c):=by simp[Nc,List.map_set]
theorem Qpk(hx:x<4294967296)(hc:c<=1): IntKind.u64.wrap ((c:Int)+IntKind.u64.wrap (x:Int))=((c+x:Nat):Int):=by
 simp only[IntKind.wrap_u64];omega
theorem Jvm(n:Nat): (n:Int).fdiv (2^min (32:Int).toNat IntKind.u64.bits)=((n / 4294967296:Nat):Int):=by
 have e:(2:Int)^min (32:Int).toNat IntKind.u64.bits=((4294967296:Nat):Int):=by decide
 grind
def AddInv(a b:List UInt32)(i c:Nat)(os:List UInt32): Prop:=os.length=i/\c<=1/\val os+4294967296^i*c=val (a.take i)+val (b.take i)
theorem Jjs: val (a.take (i+1))=val (a.take i)+4294967296^i*(a.getD i 0).toNat:=by
 rcases Nat.lt_or_ge i a.length with h|h
 .grind [List.take_succ_eq_append_getElem,List.getD,List.getElem?_eq_getElem,Uq,List.length_take,Nat.min_eq_left,val]
 rw[List.take_of_length_le om,List.take_of_length_le h];have:a.getD i 0=0:=by grind
 rw[this];simp
theorem AddInv.step(h:AddInv a b i c os)(hs:s=c+(a.getD i 0).toNat+(b.getD i 0).toNat): AddInv a b (i+1) (s / 4294967296) (os++[UInt32.ofNat s]):=by
 obtain⟨u,G,F⟩:=h;have D:(a.getD i 0).toNat<4294967296:=(a.getD i 0).toNat_lt;have y:(b.getD i 0).toNat<4294967296:=(b.getD i 0).toNat_lt;refine⟨by simp[u],om,?_⟩;rw[Uq,u,Jjs,Jjs];simp only[val,UInt32.toNat_ofNat'];have e:4294967296^(i+1)*(s / 4294967296)=4294967296^i*(4294967296*(s / 4294967296)):=by grind
 rw[e];have J:4294967296^i*(s % 2^32+4294967296*0)+4294967296^i*(4294967296*(s / 4294967296))=4294967296^i*s:=by
  rw[<-Nat.mul_add];congr 1;omega
 grind
theorem Jvp(os:List UInt32)(r:Nat)(c:UInt32): (os++List.replicate (r+1) 0).set os.length c=(os++[c])++List.replicate r 0:=by grind
theorem Qpj(hs:s<9223372036854775808)(hy:y<4294967296): IntKind.u64.wrap ((s:Int)+IntKind.u64.wrap (y:Int))=((s+y:Nat):Int):=by
 simp only[IntKind.wrap_u64];omega
abbrev Xd(w:World)(base:Nat)(v:Value)(l:List UInt32): Prop:=w.ownsRow base 25 1 v l.length (Nc l)
def Fresh(w:World)(v:Value): Prop:=∀ ad n c,v=.slice (some ad) n c->w.heap.size<=ad.block
theorem NatV.grown{w w':World}{v:Value}{n:Nat}{g:Option Nat}(h:NatV w v n)(hg:w.grownBy w' g)(hf:∀ ad m c,v=.slice (some ad) m c->some ad.block≠g): NatV w' v n:=by
 obtain⟨A,c,rfl,D,y,u⟩:=h;exact⟨A,c,rfl,D,y,Rd.grown u hg (λad e=>Ne.symm (hf ad _ _ (by rw[e])))⟩
theorem Jmg(hv:NatV w v n)(hu:NatV w u m)(hln:(Jj n).length<=1000)(hlm:(Jj m).length<=1000): Ret Tryz.prog 105 [v,u] w λr w'=>NatV w' r (n+m)/\Fresh w r/\Ext w w':=by
 refine Jz Tryz.func105 Tryz.ntmps105 rfl kr rfl ?_;refine ρ ?_;refine cl (Zt hv) ?_;rintro v' w' ⟨⟨A,rfl,ha⟩,rfl⟩;refine ρ ?_;refine cl (Zt hu) ?_;rintro u' a3 ⟨⟨B,rfl,hb⟩,rfl⟩;refine ρ ?_;refine Xg (λs:(Option Addr×Nat)×(Option Addr×Nat)=>[(0,.slice s.1.1 (Jj s.1.2).length (Jj s.1.2).length),(1,.slice s.2.1 (Jj s.2.2).length (Jj s.2.2).length)])
  (λs w'=>w'=a3/\(Jj s.2.2).length<=(Jj s.1.2).length/\s.1.2+s.2.2=n+m/\Rd a3 1 s.1.1 (Jj s.1.2).length (Nc (Jj s.1.2))/\Rd a3 1 s.2.1 (Jj s.2.2).length (Nc (Jj s.2.2))/\(Jj s.1.2).length<=1000) ?_ ?_
 .refine ci (λh=>?_) (λh=>?_)
  .refine ρ ?_;exact Js ((B,m),(A,n)) sB ⟨rfl,by grind,Nat.add_comm _ _,hb,ha,hlm⟩
  refine ρ ?_;exact Js ((A,n),(B,m)) sB ⟨rfl,by grind,rfl,ha,hb,hln⟩
 rintro⟨⟨A,x⟩,⟨B,y⟩⟩ w' ⟨rfl,am,a1,ha,hb,hl⟩;simp only at am a1 ha hb hl;generalize hL:(Jj x).length=L at *
 refine ρ ?_;refine mkn EN (L+1) om (by unfold maxLen;omega) ?_;intro w1 O af aq hO;have a8:Xd w1 w'.heap.size (.slice O (L+1) (L+1)) ([]++List.replicate (L+1) 0):=by
  have e:(madeCells (Value.int .u32 0).cells ((L+1)*1)).toList=Nc (List.replicate (L+1) 0):=by rw[Nat.mul_one,<-Jwq];exact Yr _ _
  grind
 refine ρ ?_;refine Zk (fun (k c:Nat) (F:List UInt32)=>[(0,.slice A L L),(1,.slice B (Jj y).length (Jj y).length),(5,.slice O (L+1) (L+1)),(6,.int .u64 (c:Int)),(24,.int .i64 (L:Int)),(25,.int .i64 (k:Int))])
  (λk c F w2=>Ext w' w2/\k<=L/\AddInv (Jj x) (Jj y) k c F/\Xd w2 w'.heap.size (.slice O (L+1) (L+1)) (F++List.replicate (L+1-k) 0)) (λk _ _=>L-k) 0 0 [] sB
  ⟨af,Nat.zero_le _,⟨rfl,om,rfl⟩,a8⟩ ?_
 rintro k c F w2 ⟨Z,hk,hI,a5⟩;have ah:=hI.1;have ap:=hI.2.1;have aa:=ha.ext Z;have a9:=hb.ext Z;refine ρ ?_;refine ci (λh=>?_) (λh=>?_)
 .have ak:k<L:=by have:=oT h;omega
  have aj:((Jj x).getD k 0).toNat<4294967296:=((Jj x).getD k 0).toNat_lt;have ai:((Jj y).getD k 0).toNat<4294967296:=((Jj y).getD k 0).toNat_lt;have D:(F++List.replicate (L+1-k) (0:UInt32)).length=L+1:=by simp;omega
  have store:∀ s:Nat,w2.cell? (adr O k)=(Nc (F++List.replicate (L+1-k) 0))[k]?/\w2.frozen? (adr O k)=false /\
    Xd (w2.setCell (adr O k) (.int .u32 ((UInt32.ofNat s).toNat:Int))) w'.heap.size (.slice O (L+1) (L+1)) ((F++[UInt32.ofNat s])++List.replicate (L+1-(k+1)) 0)/\Ext w' (w2.setCell (adr O k) (.int .u32 ((UInt32.ofNat s).toNat:Int))):=λs=>by
   have J:=a5;rw[Xd,D]at J;obtain⟨s1,s2,U,s4,s5⟩:=Zl J (q:=k) om (.int .u32 ((UInt32.ofNat s).toNat:Int));refine⟨s1,s2,?_,Z.setCell s4 _⟩;rw[Kd,show L+1-k=(L-k)+1 by omega]at U;have e:=Jvp F (L-k) (UInt32.ofNat s);grind
  have G:(Nc (F++List.replicate (L+1-k) 0))[k]?=some (.int .u32 (((F++List.replicate (L+1-k) 0).getD k 0).toNat:Int)):=Xk (by rw[D];omega);have a6:Rd w2 1 O (L+1) (Nc (F++List.replicate (L+1-k) 0)):=by have h5:=a5;rw[Xd,D]at h5;exact Rd.own h5
  refine ρ ?_;refine ix k aa ak ?_;refine ρ ?_;refine ld (aa.cell (Xk (show k<(Jj x).length by omega))) ?_;refine ρ ?_;rw[Qpk aj ap];refine ci (λh=>?_) (λh=>?_)
  .have a2:k<(Jj y).length:=by have:=oT h;omega
   refine ρ ?_;refine ix k a9 a2 ?_;refine ρ ?_;refine ld (a9.cell (Xk a2)) ?_;refine ρ ?_;refine ix k a6 om ?_;obtain⟨s1,s2,U,s4⟩:=store (c+((Jj x).getD k 0).toNat+((Jj y).getD k 0).toNat);rw[Qpj om ai,Yz];refine sto (s1.trans G) s2 ?_;refine ρ ?_;refine Zs rfl rfl (by decide) rfl ?_;refine ρ ?_;refine Qa (k+1) ((c+((Jj x).getD k 0).toNat+((Jj y).getD k 0).toNat) / 4294967296) (F++[UInt32.ofNat (c+((Jj x).getD k 0).toNat+((Jj y).getD k 0).toNat)]) ?_ ⟨s4,om,hI.step rfl,U⟩ om;rw[Jvm];exact sB
  have ar:(Jj y).length<=k:=by have:=oF h;omega
  have ac:(Jj y).getD k 0=0:=by grind
  refine ρ ?_;refine ix k a6 om ?_;obtain⟨s1,s2,U,s4⟩:=store (c+((Jj x).getD k 0).toNat);rw[Yz];refine sto (s1.trans G) s2 ?_;refine ρ ?_;refine Zs rfl rfl (by decide) rfl ?_;refine ρ ?_;refine Qa (k+1) ((c+((Jj x).getD k 0).toNat) / 4294967296) (F++[UInt32.ofNat (c+((Jj x).getD k 0).toNat)]) ?_ ⟨s4,om,hI.step (by rw[ac];rfl),U⟩ om;rw[Jvm];exact sB
 have ao:k=L:=by have:=oF h;omega
 subst ao;have D:(F++List.replicate (k+1-k) (0:UInt32)).length=k+1:=by simp;omega
 have J:=a5;rw[Xd,D]at J;have G:(Nc (F++List.replicate (k+1-k) 0))[k]?=some (.int .u32 (((F++List.replicate (k+1-k) 0).getD k 0).toNat:Int)):=Xk (by rw[D];omega);obtain⟨s1,s2,U,s4,s5⟩:=Zl J (q:=k) om (.int .u32 ((UInt32.ofNat c).toNat:Int));rw[Kd,show k+1-k=0+1 by omega]at U;have e:=Jvp F 0 (UInt32.ofNat c);rw[ah,List.replicate_zero,List.append_nil]at e;rw[e]at U;have ae:=Z.setCell s4 (.int .u32 ((UInt32.ofNat c).toNat:Int));refine ρ ?_;refine ix k (Rd.own J) om ?_;rw[Yz];refine sto (s1.trans G) s2 ?_;refine ρ ?_;have an:(F++[UInt32.ofNat c]).length=k+1:=by simp;omega
 have a4:=Rd.own U;have a7:val (F++[UInt32.ofNat c])=n+m:=by
  obtain⟨i1,i2,i3⟩:=hI;rw[Uq,i1];simp only[val,UInt32.toNat_ofNat'];rw[<-a1,<-Zf x,<-Zf y,<-List.take_of_length_le (show(Jj x).length<=k by omega),<-List.take_of_length_le (show(Jj y).length<=k by omega),<-i3,show c % 2^32+4294967296*0=c by omega]
 rw[<-an]at a4 ⊢;refine cl (Gc a4 (nR _) om) ?_;rintro t w4 ⟨rfl,rfl⟩;have:=Ka a4 om;rw[a7]at this ⊢;refine ρ ?_;exact Jq ⟨this,λad _ _ e=>hO ad (by injection e),ae⟩
theorem Qcj(hv:NatV w v n)(hu:NatV w u m)(hln:(Jj n).length<=1000)(hlm:(Jj m).length<=1000): Ret Tryz.prog 105 [v,u] w λr w'=>NatV w' r (n+m)/\Ext w w' :=
 (Jmg hv hu hln hlm).mono λ_ _ h=>⟨h.1,h.2.2⟩
open Go.RowKit Pl Go.Wk
variable {a b os:List UInt32}{c i m n s x y:Nat}
def dif(x c y:Nat): Nat:=(18446744073709551616+x-c-y) % 18446744073709551616
theorem Qzc(hx:x<4294967296)(hc:c<=1): IntKind.u64.wrap (IntKind.u64.wrap (x:Int)-(c:Int))=(dif x c 0:Int):=by
 unfold dif;simp only[IntKind.wrap_u64];omega
theorem Qzb(hx:x<4294967296)(hc:c<=1)(hy:y<4294967296): IntKind.u64.wrap ((dif x c 0:Int)-IntKind.u64.wrap (y:Int))=(dif x c y:Int):=by
 unfold dif;simp only[IntKind.wrap_u64];omega
theorem Jgh(n:Nat): (n:Int).fdiv (2^min (63:Int).toNat IntKind.u64.bits)=((n / 9223372036854775808:Nat):Int):=by
 have e:(2:Int)^min (63:Int).toNat IntKind.u64.bits=((9223372036854775808:Nat):Int):=by decide
 grind
theorem Qhq(hx:x<4294967296)(hc:c<=1)(hy:y<4294967296): dif x c y % 4294967296+y+c=x+4294967296*(dif x c y / 9223372036854775808)/\dif x c y / 9223372036854775808<=1:=by
 unfold dif;omega
def SubInv(a b:List UInt32)(i c:Nat)(os:List UInt32): Prop:=os.length=i/\c<=1/\val os+val (b.take i)=val (a.take i)+4294967296^i*c
theorem SubInv.step(h:SubInv a b i c os)(hs:s=dif (a.getD i 0).toNat c (b.getD i 0).toNat):
  SubInv a b (i+1) (s / 9223372036854775808) (os++[UInt32.ofNat s]):=by
 obtain⟨J,G,O⟩:=h;have F:(a.getD i 0).toNat<4294967296:=(a.getD i 0).toNat_lt;have D:(b.getD i 0).toNat<4294967296:=(b.getD i 0).toNat_lt;obtain⟨y,u⟩:=Qhq F G D;rw[<-hs]at y u;refine⟨by simp[J],u,?_⟩;grind [Uq,Jjs,val,UInt32.toNat_ofNat',Nat.pow_succ,Nat.mul_assoc,Nat.mul_add]
theorem Jmc{v u:Value}{w:World}(hv:NatV w v n)(hu:NatV w u m)(hln:(Jj n).length<=1000):
  Ret Tryz.prog 184 [v,u] w λr w'=>(∃ x,r=.tuple #[x,.int .i64 (if n<m then 19 else 0)]/\NatV w' x (n-m)/\Fresh w x)/\Ext w w':=by
 refine Jz Tryz.func184 Tryz.ntmps184 rfl kr rfl ?_;refine ρ ?_;refine cl (Zt hv) ?_;rintro v' w' ⟨⟨A,rfl,ha⟩,rfl⟩;refine ρ ?_;refine cl (Zt hu) ?_;rintro u' aq ⟨⟨B,rfl,hb⟩,rfl⟩;have aj:(Jj m).length<=4611686018427387904:=by obtain⟨_,_,_,_,h,_⟩:=hu;exact h
 refine ρ ?_;refine cl (Jqp (n:=n) (m:=m) ⟨A,_,rfl,Nat.le_refl _,om,ha⟩ ⟨B,_,rfl,Nat.le_refl _,aj,hb⟩) ?_;rintro t w' ⟨rfl,D⟩;refine ρ ?_;refine ci (λh=>?_) (λh=>?_)
 .have Z:n<m:=by
   have:=oT h;unfold Vg at this;grind
  refine ρ ?_;refine Xx ⟨⟨.slice none 0 0,?_,?_,λad _ _ e=>by cases e⟩,D⟩
  .rw[if_pos Z]
  rw[show n-m=0 by omega];exact NatV.nil _
 have am:m<=n:=by grind [Vg,Nat.lt_or_ge]
 have au:(Jj m).length<=(Jj n).length:=by
  rcases Nat.lt_or_ge (Jj n).length (Jj m).length with h1|h1
  .have:=Jmw h1;omega
  exact h1
 have ao:=ha.ext D;have an:=hb.ext D;generalize hL:(Jj n).length=L at *
 refine ρ ?_;refine mkn EN L om (by unfold maxLen;omega) ?_;intro w1 O a2 ar hO;have ap:=D.trans a2;have ah:=D.size;have a8:Xd w1 w'.heap.size (.slice O L L) ([]++List.replicate L 0):=by
  have e:(madeCells (Value.int .u32 0).cells (L*1)).toList=Nc (List.replicate L 0):=by rw[Nat.mul_one,<-Jwq];exact Yr _ _
  grind
 refine ρ ?_;refine Zk (fun (k c:Nat) (y:List UInt32)=>[(0,.slice A L L),(1,.slice B (Jj m).length (Jj m).length),(6,.slice O L L),(7,.int .u64 (c:Int)),(22,.int .i64 (L:Int)),(23,.int .i64 (k:Int))])
  (λk c y w2=>Ext w' w2/\k<=L/\SubInv (Jj n) (Jj m) k c y/\Xd w2 w'.heap.size (.slice O L L) (y++List.replicate (L-k) 0)) (λk _ _=>L-k) 0 0 [] sB
  ⟨a2,Nat.zero_le _,⟨rfl,om,rfl⟩,a8⟩ ?_
 rintro k c y w2 ⟨J,hk,hI,a7⟩;have a5:=hI.1;have aa:=hI.2.1;have ae:=ao.ext J;have ac:=an.ext J;refine ρ ?_;refine ci (λh=>?_) (λh=>?_)
 .have Z:k<L:=by have:=oT h;omega
  have a9:((Jj n).getD k 0).toNat<4294967296:=((Jj n).getD k 0).toNat_lt;have ai:((Jj m).getD k 0).toNat<4294967296:=((Jj m).getD k 0).toNat_lt;have F:(y++List.replicate (L-k) (0:UInt32)).length=L:=by simp;omega
  have store:∀ s:Nat,w2.cell? (adr O k)=(Nc (y++List.replicate (L-k) 0))[k]?/\w2.frozen? (adr O k)=false /\
    Xd (w2.setCell (adr O k) (.int .u32 ((UInt32.ofNat s).toNat:Int))) w'.heap.size (.slice O L L) ((y++[UInt32.ofNat s])++List.replicate (L-(k+1)) 0)/\Ext w' (w2.setCell (adr O k) (.int .u32 ((UInt32.ofNat s).toNat:Int))):=λs=>by
   have a6:=a7;rw[Xd,F]at a6;obtain⟨s1,s2,s3,s4,s5⟩:=Zl a6 (q:=k) om (.int .u32 ((UInt32.ofNat s).toNat:Int));refine⟨s1,s2,?_,J.setCell s4 _⟩;rw[Kd,show L-k=(L-(k+1))+1 by omega]at s3;have e:=Jvp y (L-(k+1)) (UInt32.ofNat s);grind
  have G:(Nc (y++List.replicate (L-k) 0))[k]?=some (.int .u32 (((y++List.replicate (L-k) 0).getD k 0).toNat:Int)):=Xk (by rw[F];omega);have a1:Rd w2 1 O L (Nc (y++List.replicate (L-k) 0)):=by have h5:=a7;rw[Xd,F]at h5;exact Rd.own h5
  refine ρ ?_;refine ix k ae Z ?_;refine ρ ?_;refine ld (ae.cell (Xk (show k<(Jj n).length by omega))) ?_;refine ρ ?_;rw[Qzc a9 aa];refine ci (λh=>?_) (λh=>?_)
  .have U:k<(Jj m).length:=by have:=oT h;omega
   refine ρ ?_;refine ix k ac U ?_;refine ρ ?_;refine ld (ac.cell (Xk U)) ?_;refine ρ ?_;refine ix k a1 om ?_;obtain⟨s1,s2,s3,s4⟩:=store (dif ((Jj n).getD k 0).toNat c ((Jj m).getD k 0).toNat);rw[Qzb a9 aa ai,Yz];refine sto (s1.trans G) s2 ?_;refine ρ ?_;refine Zs rfl rfl (by decide) rfl ?_;refine ρ ?_;refine Qa (k+1) (dif ((Jj n).getD k 0).toNat c ((Jj m).getD k 0).toNat / 9223372036854775808) (y++[UInt32.ofNat (dif ((Jj n).getD k 0).toNat c ((Jj m).getD k 0).toNat)]) ?_ ⟨s4,om,hI.step rfl,s3⟩ om;rw[Jgh];exact sB
  have am:(Jj m).length<=k:=by have:=oF h;omega
  have af:(Jj m).getD k 0=0:=by grind
  refine ρ ?_;refine ix k a1 om ?_;obtain⟨s1,s2,s3,s4⟩:=store (dif ((Jj n).getD k 0).toNat c 0);rw[Yz];refine sto (s1.trans G) s2 ?_;refine ρ ?_;refine Zs rfl rfl (by decide) rfl ?_;refine ρ ?_;refine Qa (k+1) (dif ((Jj n).getD k 0).toNat c 0 / 9223372036854775808) (y++[UInt32.ofNat (dif ((Jj n).getD k 0).toNat c 0)]) ?_ ⟨s4,om,hI.step (by rw[af];rfl),s3⟩ om;rw[Jgh];exact sB
 have ak:k=L:=by have:=oF h;omega
 subst ak;have a4:Rd w2 1 O y.length (Nc y):=by
  have:=Rd.own (show w2.ownsRow w'.heap.size 25 1 (.slice O k k) k (Nc y) by grind);rw[a5];exact this
 have a3:val y=n-m:=by
  obtain⟨i1,i2,i3⟩:=hI;rw[List.take_of_length_le (show(Jj n).length<=k by omega),List.take_of_length_le (show(Jj m).length<=k by omega),Zf,Zf]at i3;have hv:=Jjt y;rw[i1]at hv;rcases Nat.eq_zero_or_pos c with h0|h0
  repeat grind
 refine ρ ?_;rw[<-a5];refine cl (Gc a4 (nR _) om) ?_;rintro t w4 ⟨rfl,rfl⟩;have:=Ka a4 om;rw[a3]at this ⊢;refine ρ ?_;refine Xx ⟨⟨_,?_,this,λad _ _ e=>nL ah (hO ad (by injection e))⟩,D.trans J⟩;rw[if_neg om]
end Go.Proofs.YtebiphhfkdbpfaaGreat
namespace Go.Proofs.YtebiphhfkdbpfaaGreat
namespace Pl
structure V where
 kind: Int
 num:Int
 str:ByteArray
def V.bytes(v:V): List UInt8:=v.str.data.toList
def V.cells(v:V): List Value:=[.int .i64 v.kind,.int .i64 v.num,.string v.str]
def V.val(v:V): Value:=.agg #[.int .i64 v.kind,.int .i64 v.num,.string v.str]
end Pl
open Go.RowKit Pl Go.Wk
attribute [local irreducible] WC WL QX WD WDB
def V0: V:=⟨0,0,⟨#[]⟩⟩
def Je(r:List V): List Value:=r.flatMap V.cells
abbrev RdR(w:World)(A:Option Addr)(r:List V): Prop:=Rd w 3 A r.length (Je r)
abbrev RdB(w:World)(A:Option Addr)(ds:List Bool): Prop:=Rd w 1 A ds.length (ds.map Value.bool)
theorem Qkv(r:List V): (Je r).length=r.length*3:=by
 induction r with
 | nil=>rfl
 | cons v r ih=>simp only[Je,List.flatMap_cons,List.length_append,V.cells,List.length_cons,List.length_nil]at ih ⊢;omega
theorem Jyc: ∀(r:List V) (i j:Nat),i<r.length->j<3->(Je r)[i*3+j]?=(r.getD i V0).cells[j]?
 | [],i,j,h,_=>by simp at h
 | v::r,0,j,_,hj=>by
  simp only[Je,List.flatMap_cons,Nat.zero_mul,Nat.zero_add,List.getD_cons_zero];grind [List.getElem?_append_left,V.cells]
 | v::r,i+1,j,h,hj=>by
  have ih:=Jyc r i j (by simpa using h) hj;grind [Je,List.getD_cons_succ,List.getElem?_append_right,V.cells]
theorem RdR.cell{w:World}{A:Option Addr}{r:List V}(h:RdR w A r){i j:Nat}{u:Value}(hi:i<r.length)(hu:(r.getD i V0).cells[j]?=some u): w.cell? ((adr A (i*3)).add j)=some u:=by grind [List.getElem?_eq_some_iff.1,V.cells,Gv,Rd.cell,Jyc]
theorem RdB.cell{w:World}{A:Option Addr}{ds:List Bool}(h:RdB w A ds){i:Nat}(hi:i<ds.length): w.cell? (adr A i)=some (.bool (ds.getD i false)) :=
 Rd.cell h (by grind)
theorem V.one(v:V): ∀ u∈v.cells,u.oneCell'=true:=by
 intro u y;simp[V.cells]at y;rcases y with rfl|rfl|rfl<;>rfl
theorem Qkt(r:List V): ∀ u∈Je r,u.oneCell'=true:=by
 intro u D;obtain⟨v,_,y⟩:=List.mem_flatMap.1 D;simp[V.cells]at y;rcases y with rfl|rfl|rfl<;>rfl
theorem Qkw(a b:List V): Je (a++b)=Je a++Je b:=by simp[Je]
def cmpV(a b:V): Int:=if a.kind≠b.kind then sgn a.kind b.kind else if a.num≠b.num then sgn a.num b.num else Lib.compareBytes a.bytes b.bytes
def neg(d:Bool)(c:Int): Int:=if d then -c else c
def Jk: List V->List V->List Bool->Int
 | [],[],_=>0
 | [],_::_,_=>-1
 | _::_,[],_=>1
 | x::a,y::b,ds=>if cmpV x y=0 then Jk a b (ds.drop 1) else neg (ds.getD 0 false) (cmpV x y)
theorem Qlk(a b:ByteArray)(w:World): Ret Tryz.prog 182 [.string a,.string b] w λv w'=>v=.int .i64 (Lib.compareBytes a.data.toList b.data.toList)/\w'=w:=by
 refine Jz Tryz.func182 Tryz.ntmps182 rfl kr rfl ?_;refine ρ ?_;refine wext (vs:=[.string a,.string b]) (v:=.int .i64 (Lib.compareBytes a.data.toList b.data.toList)) (w':=w) ?_ ?_
 .rw[run_callFunc_extern Tryz.func185 kr kr kr (e:=Extern.BytealgCompare.compare) kr,Lib.run_compareString];rfl
 refine ρ ?_;exact Jq ⟨rfl,rfl⟩
theorem Qzd(a b:ByteArray)(w:World): Ret Tryz.prog 173 [.string a,.string b] w λv w'=>v=.int .i64 (Lib.compareBytes a.data.toList b.data.toList)/\w'=w:=by
 refine Jz Tryz.func173 Tryz.ntmps173 rfl kr rfl ?_;refine ρ ?_;refine cl (Qlk a b w) ?_;rintro v w' ⟨rfl,rfl⟩;refine ρ ?_;exact Jq ⟨rfl,rfl⟩
theorem Jxv(a b:V)(w:World): Ret Tryz.prog 147 [a.val,b.val] w λr w'=>r=.int .i64 (cmpV a b)/\Ext w w':=by
 refine Jz Tryz.func147 Tryz.ntmps147 rfl kr rfl ?_;refine ρ ?_;refine bx ?_;intro w1 b1 F Z u;refine ρ ?_;refine bx ?_;intro w2 b2 D U y;have u:=u.ext D;have G:=F.trans D;refine ρ ?_;refine ld (u.at rfl) ?_;refine ρ ?_;refine ld (y.at rfl) ?_;refine ρ ?_;refine ci (λO=>?_) (λO=>?_)
 .refine ρ ?_;refine ld (u.at rfl) ?_;refine ρ ?_;refine ld (y.at rfl) ?_;refine ρ ?_;refine cl (Jch _ _ _) ?_;rintro t J ⟨rfl,rfl⟩;refine ρ ?_;refine Jq ⟨?_,G⟩;grind [cmpV]
 refine ρ ?_;refine ld (u.at rfl) ?_;refine ρ ?_;refine ld (y.at rfl) ?_;refine ρ ?_;refine ci (λhn=>?_) (λhn=>?_)
 .refine ρ ?_;refine ld (u.at rfl) ?_;refine ρ ?_;refine ld (y.at rfl) ?_;refine ρ ?_;refine cl (Qlj _ _ _) ?_;rintro t J ⟨rfl,rfl⟩;refine ρ ?_;refine Jq ⟨?_,G⟩;grind [cmpV]
 refine ρ ?_;refine ld (u.at rfl) ?_;refine ρ ?_;refine ld (y.at rfl) ?_;refine ρ ?_;refine cl (Qzd _ _ _) ?_;rintro t J ⟨rfl,rfl⟩;refine ρ ?_;refine Jq ⟨?_,G⟩;rw[cmpV,if_neg (by simpa using O),if_neg (by simpa using hn)];rfl
end Go.Proofs.YtebiphhfkdbpfaaGreat
namespace Go.Proofs.YtebiphhfkdbpfaaGreat
open Pl
variable {α β:Type}
structure PreC{α:Type}(f:α->α->Int): Prop where
 anti:∀ a b,f b a = - f a b
 trans:∀ a b c,f a b<=0->f b c<=0->f a c<=0
theorem PreC.refl{f:α->α->Int}(h:PreC f)(a:α): f a a=0:=by have:=h.anti a a;omega
structure Cmp{α:Type}(f:α->α->Int): Prop where
 anti:∀ a b,f b a = - f a b
 zero:∀ a b,f a b=0->a=b
 trans:∀ a b c,f a b<=0->f b c<=0->f a c<=0
theorem Cmp.pre{f:α->α->Int}(h:Cmp f)(g:β->α): PreC λa b=>f (g a) (g b):=⟨λa b=>h.anti _ _,λa b c=>h.trans _ _ _⟩
section
variable {α:Type} {f:α->α->Int}
theorem Cmp.refl(h:Cmp f)(a:α): f a a=0:=by have:=h.anti a a;omega
theorem Cmp.lt_le(h:Cmp f){a b c:α}(h1:f a b<0)(h2:f b c<=0): f a c<0:=by
 have u:=h.trans a b c om h2;rcases Int.lt_or_eq_of_le u with h4|h4
 .exact h4
 have:=h.zero _ _ h4;subst this;have:=h.anti a b;omega
theorem Cmp.le_lt(h:Cmp f){a b c:α}(h1:f a b<=0)(h2:f b c<0): f a c<0:=by
 have u:=h.trans a b c h1 om;rcases Int.lt_or_eq_of_le u with h4|h4
 .exact h4
 have:=h.zero _ _ h4;subst this;have:=h.anti a b;omega
theorem Cmp.lt_trans(h:Cmp f){a b c:α}(h1:f a b<0)(h2:f b c<0): f a c<0:=h.lt_le h1 om
theorem Cmp.tot(h:Cmp f)(a b:α): f a b<0∨a=b∨f b a<0:=by
 have u:=h.anti a b;rcases Int.lt_trichotomy (f a b) 0 with h2|h2|h2
 .exact .inl h2
 .exact .inr (.inl (h.zero _ _ h2))
 repeat grind
theorem Cmp.flip(h:Cmp f): Cmp λa b=>- f a b :=
 ⟨λa b=>by rw[h.anti a b],λa b h0=>h.zero a b om,λa b c y u=>by
  have G:=h.anti a b;have F:=h.anti b c;have D:=h.anti a c;have:=h.trans c b a om om;omega⟩
end
theorem cmp_sgn: Cmp sgn:=by
 refine⟨λa b=>?_,λa b h=>?_,λa b c y u=>?_⟩
 .unfold sgn;split<;>split<;>omega
 .unfold sgn at h;split at h;repeat grind
 repeat grind [sgn]
theorem Jgl(a b:Int): sgn a b = -1∨sgn a b=0∨sgn a b=1:=by
 unfold sgn;grind
theorem Jsh: ∀ x y:List UInt8,Lib.compareBytes y x = - Lib.compareBytes x y
 | [],[]=>rfl
 | [],_::_=>rfl
 | _::_,[]=>rfl
 | a::x,b::y=>by
  simp only[Lib.compareBytes];have ih:=Jsh x y;grind
theorem Jsf: ∀ x y:List UInt8,Lib.compareBytes x y=0->x=y
 | [],[],_=>rfl
 | [],_::_,h=>by simp[Lib.compareBytes]at h
 | _::_,[],h=>by simp[Lib.compareBytes]at h
 | a::x,b::y,h=>by
  simp only[Lib.compareBytes,UInt8.lt_iff_toNat_lt]at h;split at h
  .cases h
  split at h
  .cases h
  rw[Jsf x y h,UInt8.toNat_inj.1 (show a.toNat=b.toNat by omega)]
theorem Jsg: ∀ x y z:List UInt8,Lib.compareBytes x y<=0->Lib.compareBytes y z<=0->Lib.compareBytes x z<=0
 | [],_,[],_,_=>by simp[Lib.compareBytes]
 | [],_,_::_,_,_=>by simp[Lib.compareBytes]
 | _::_,[],_,h,_=>by simp[Lib.compareBytes]at h
 | _::_,_::_,[],_,h=>by simp[Lib.compareBytes]at h
 | a::x,b::y,c::z,h1,h2=>by
  simp only[Lib.compareBytes,UInt8.lt_iff_toNat_lt]at *;split at h1
  .grind
  split at h1
  .grind
  split at h2
  .grind
  split at h2
  .grind
  rw[if_neg om,if_neg om];exact Jsg x y z h1 h2
theorem cb_3: ∀ x y:List UInt8,Lib.compareBytes x y = -1∨Lib.compareBytes x y=0∨Lib.compareBytes x y=1
 | [],[]=>by simp[Lib.compareBytes]
 | [],_::_=>by simp[Lib.compareBytes]
 | _::_,[]=>by simp[Lib.compareBytes]
 | a::x,b::y=>by
  simp only[Lib.compareBytes];split
  .simp
  split
  .simp
  exact cb_3 x y
theorem V.ext{a b:V}(h1:a.kind=b.kind)(h2:a.num=b.num)(h3:a.bytes=b.bytes): a=b:=by
 obtain⟨k,n,s⟩:=a;obtain⟨D,y,u⟩:=b;simp only[V.bytes]at *;obtain⟨d⟩:=s;obtain⟨F⟩:=u;simp only at h1 h2 h3;rw[h1,h2,Array.toList_inj.1 h3]
theorem Jzc{a b:Int}(h:a≠b): sgn a b≠0:=λe=>h (cmp_sgn.zero _ _ e)
theorem Qmd(a b:V): cmpV a b = -1∨cmpV a b=0∨cmpV a b=1:=by
 unfold cmpV;split
 .exact Jgl _ _
 split
 repeat grind [Jgl,cb_3]
theorem cmp_V: Cmp cmpV:=by
 refine⟨λa b=>?_,λa b h=>?_,λa b c y u=>?_⟩
 .unfold cmpV;by_cases h:a.kind=b.kind
  .rw[if_neg (not_not_intro h),if_neg (not_not_intro h.symm)];by_cases u:a.num=b.num
   .grind [Jsh]
   rw[if_pos u,if_pos (Ne.symm u)];exact cmp_sgn.anti _ _
  rw[if_pos h,if_pos (Ne.symm h)];exact cmp_sgn.anti _ _
 .unfold cmpV at h;split at h
  .grind [Jzc]
  rename_i y;split at h
  repeat grind [Jzc,V.ext,Jsf]
 unfold cmpV at *;by_cases k1:a.kind=b.kind<;>by_cases k2:b.kind=c.kind
 .have G:a.kind=c.kind:=k1.trans k2;rw[if_neg (by simp[k1])]at y;rw[if_neg (by simp[k2])]at u;rw[if_neg (by simp[G])];by_cases n1:a.num=b.num<;>by_cases n2:b.num=c.num
  .grind [Jsg]
  .grind
  .grind
  rw[if_pos n1]at y;rw[if_pos n2]at u;have F:=cmp_sgn.lt_le (a:=a.num) (c:=c.num) (by grind [Jzc]) u;have D:a.num≠c.num:=by intro e;rw[e,cmp_sgn.refl]at F;omega
  rw[if_pos D];omega
 .grind
 .grind
 rw[if_pos k1]at y;rw[if_pos k2]at u;have F:=cmp_sgn.lt_le (a:=a.kind) (c:=c.kind) (by grind [Jzc]) u;have D:a.kind≠c.kind:=by intro e;rw[e,cmp_sgn.refl]at F;omega
 rw[if_pos D];omega
theorem Zr(a:V): cmpV a a=0:=cmp_V.refl a
theorem neg_0(d:Bool): neg d 0=0:=by cases d<;>rfl
theorem Jcl(d:Bool): Cmp λa b=>neg d (cmpV a b):=by
 cases d
 .exact cmp_V
 exact cmp_V.flip
theorem Jxg: ∀(a b:List V) (ds:List Bool),Jk b a ds = - Jk a b ds
 | [],[],_=>rfl
 | [],_::_,_=>rfl
 | _::_,[],_=>rfl
 | x::a,y::b,ds=>by
  simp only[Jk];have h:=cmp_V.anti x y;by_cases e:cmpV x y=0
  .rw[if_pos e,if_pos om];exact Jxg a b _
  rw[if_neg e,if_neg om];exact(Jcl _).anti x y
theorem Jjl: ∀(a b:List V) (ds:List Bool),Jk a b ds=0->a=b
 | [],[],_,_=>rfl
 | [],_::_,_,h=>by simp[Jk]at h
 | _::_,[],_,h=>by simp[Jk]at h
 | x::a,y::b,ds,h=>by
  simp only[Jk]at h;split at h
  .rename_i e;rw[cmp_V.zero _ _ e,Jjl a b _ h]
  rename_i e;exact absurd (congrArg (cmpV x) ((Jcl _).zero x y h)) (by grind [Zr])
theorem Jwc: ∀(a b c:List V) (ds:List Bool),Jk a b ds<=0->Jk b c ds<=0->Jk a c ds<=0
 | [],_,[],_,_,_=>by simp[Jk]
 | [],_,_::_,_,_,_=>by simp[Jk]
 | _::_,[],_,_,h,_=>by simp[Jk]at h
 | _::_,_::_,[],_,_,h=>by simp[Jk]at h
 | x::a,y::b,z::c,ds,h1,h2=>by
  simp only[Jk]at *;have N:=Jcl (ds.getD 0 false);by_cases e1:cmpV x y=0
  .rw[if_pos e1]at h1;rw[cmp_V.zero _ _ e1];by_cases e2:cmpV y z=0
   .rw[if_pos e2]at h2 ⊢;exact Jwc a b c _ h1 h2
   repeat grind
  rw[if_neg e1]at h1;by_cases e2:cmpV y z=0
  .rw[<-cmp_V.zero _ _ e2,if_neg e1];exact h1
  rw[if_neg e2]at h2;have hne:neg (ds.getD 0 false) (cmpV x y)≠0:=λe=>e1 (by have:=N.zero x y e;grind [Zr]);have h3:=N.lt_le (a:=x) (b:=y) (c:=z) om h2;grind [cmpV,neg_0]
theorem Gk(ds:List Bool): Cmp λa b=>Jk a b ds:=⟨λa b=>Jxg a b ds,λa b h=>Jjl a b ds h,λa b c y u=>Jwc a b c ds y u⟩
theorem Vo(a:List V)(ds:List Bool): Jk a a ds=0:=(Gk ds).refl a
open Go.RowKit Pl Go.Wk
attribute [local irreducible] WC WL QX WD WDB
variable {ds:List Bool}{a b:List V}{k:Nat}{va vb vd:Value}{w:World}
def RowV(w:World)(v:Value)(r:List V): Prop:=∃ A c,v=.slice A r.length c/\r.length<=c/\r.length<=1100000/\RdR w A r
def BoolsV(w:World)(v:Value)(ds:List Bool): Prop:=∃ A c,v=.slice A ds.length c/\ds.length<=c/\ds.length<=1100000/\RdB w A ds
theorem RowV.ext{w w':World}{v:Value}{r:List V}(h:RowV w v r)(hx:Ext w w'): RowV w' v r:=by
 obtain⟨A,c,F,D,y,u⟩:=h;exact⟨A,c,F,D,y,u.ext hx⟩
theorem BoolsV.ext{w w':World}{v:Value}{r:List Bool}(h:BoolsV w v r)(hx:Ext w w'): BoolsV w' v r:=by
 obtain⟨A,c,F,D,y,u⟩:=h;exact⟨A,c,F,D,y,u.ext hx⟩
theorem RowV.nil(w:World)(A:Option Addr)(c:Nat): RowV w (.slice A 0 c) []:=⟨A,c,rfl,by simp,by simp,Rd.nil⟩
theorem BoolsV.nil(w:World)(A:Option Addr)(c:Nat): BoolsV w (.slice A 0 c) []:=⟨A,c,rfl,by simp,by simp,Rd.nil⟩
theorem Jsb(ha:k<a.length)(hb:k<b.length): Jk (a.drop k) (b.drop k) (ds.drop k) =
  if cmpV (a.getD k V0) (b.getD k V0)=0 then Jk (a.drop (k+1)) (b.drop (k+1)) (ds.drop (k+1)) else neg (ds.getD k false) (cmpV (a.getD k V0) (b.getD k V0)):=by grind [List.drop_eq_getElem_cons,Jk,V0,List.getD,List.getElem?_eq_getElem,List.drop_drop]
theorem Jrw(hk:a.length<=k∨b.length<=k)(hka:k<=a.length)(hkb:k<=b.length): Jk (a.drop k) (b.drop k) (ds.drop k)=if a.length<b.length then -1 else if b.length<a.length then 1 else 0:=by
 rcases Nat.lt_trichotomy a.length b.length with h|h|h
 .rw[if_pos h,List.drop_of_length_le (by omega:a.length<=k),List.drop_eq_getElem_cons (by omega:k<b.length)];rfl
 .rw[if_neg om,if_neg om,List.drop_of_length_le (by omega:a.length<=k),List.drop_of_length_le (by omega:b.length<=k)];rfl
 rw[if_neg om,if_pos h,List.drop_of_length_le (by omega:b.length<=k),List.drop_eq_getElem_cons (by omega:k<a.length)];rfl
theorem Qjj(a b:V): IntKind.i64.wrap (0-cmpV a b)=neg true (cmpV a b):=by
 rcases Qmd a b with h|h|h<;>rw[h]<;>rfl
theorem Qcq(n m:Nat): (if(m:Int)<(n:Int) then(m:Int) else(n:Int))=((min n m:Nat):Int):=by split<;>omega
theorem Qll(ha:RowV w va a)(hb:RowV w vb b)(hd:BoolsV w vd ds):
  Ret Tryz.prog 119 [va,vb,vd] w λr w'=>r=.int .i64 (Jk a b ds)/\Ext w w':=by
 obtain⟨A,ac,rfl,ak,aj,ha⟩:=ha;obtain⟨B,bc,rfl,ai,ah,hb⟩:=hb;obtain⟨D,dc,rfl,ae,ad,hd⟩:=hd;refine Jz Tryz.func119 Tryz.ntmps119 rfl kr rfl ?_;refine ρ ?_;rw[Qcq];refine Jl (λk=>[(0,.slice A a.length ac),(1,.slice B b.length bc),(2,.slice D ds.length dc),(13,.int .i64 ((min a.length b.length:Nat):Int)),(14,.int .i64 ((k:Nat):Int))])
  (λk w'=>Ext w w'/\k<=a.length/\k<=b.length/\Jk a b ds=Jk (a.drop k) (b.drop k) (ds.drop k)) (λk=>a.length-k) 0 sB ⟨Ext.refl w,Nat.zero_le _,Nat.zero_le _,rfl⟩ ?_
 rintro k w1 ⟨G,a7,a6,he⟩;have a9:=ha.ext G;have a8:=hb.ext G;have af:=hd.ext G;refine ρ ?_;have out:(a.length<=k∨b.length<=k)->Jk a b ds=if a.length<b.length then -1 else if b.length<a.length then 1 else 0:=λh=>by rw[he,Jrw h a7 a6]
 refine ci (λh=>?_) (λh=>?_)
 .have aa:k<min a.length b.length:=by have:=oT h;omega
  have O:k<a.length:=om
  have J:k<b.length:=om
  refine ρ ?_;refine dr [(0,0),(0,1),(0,2),(0,3),(0,4),(0,5),(0,6),(0,7),(1,8),(0,9)] kr ?_;have F:Ext w1 w1.drew:=(Ext.refl w1).drew;have a5:=a9.ext F;have a4:=a8.ext F;refine ρd ?_;refine Qp 3 k a5 O ?_;refine ρd ?_;refine Qj (λj u hu=>RdR.cell a5 O hu) ?_;refine ρd ?_;refine Qp 3 k a4 J ?_;refine ρd ?_;refine Qj (λj u hu=>RdR.cell a4 J hu) ?_;refine ρd ?_;refine dcl (Jxv (a.getD k V0) (b.getD k V0) _) ?_;rintro x w2 ⟨rfl,Z⟩;refine⟨Z,?_⟩;have y:Ext w w2:=(G.trans F).trans Z;have a3:=hd.ext y;refine ρd ?_;refine ρ ?_;have step:=Jsb (ds:=ds) O J;refine ci (λh0=>?_) (λh0=>?_)
  .refine ρ ?_;refine Jg (k+1) sB ⟨y,om,om,?_⟩ om;grind
  have a1:=Vr h0;refine ρ ?_;refine ki 32 (λh=>?_) (λh=>?_)
  .have a2:k<ds.length:=by have:=oT h;omega
   refine ρ ?_;refine ix k a3 a2 ?_;refine ρ ?_;refine ld (RdB.cell a3 a2) ?_;refine ρ ?_;refine ci (λh1=>?_) (λh1=>?_)
   .refine ρ ?_;refine Jq ⟨?_,y⟩;grind [Qjj]
   refine ρ ?_;refine Jq ⟨?_,y⟩;rw[he,step,h1,if_neg a1];rfl
  have h1:ds.getD k false=false:=by grind
  refine ρ ?_;refine Jq ⟨?_,y⟩;rw[he,step,h1,if_neg a1];rfl
 have U:=out (by grind);refine ρ ?_;refine ci (λh=>?_) (λh1=>?_)
 .refine ρ ?_;refine Jq ⟨?_,G⟩;rw[U,if_pos (by grind)]
 refine ρ ?_;refine ci (λh=>?_) (λh2=>?_)
 .refine ρ ?_;refine Jq ⟨?_,G⟩;rw[U,if_neg (by grind),if_pos (by grind)]
 refine ρ ?_;refine Jq ⟨?_,G⟩;rw[U,if_neg (by grind),if_neg (by grind)]
theorem Jhg(ha:RowV w va a)(hb:RowV w vb b):
  Ret Tryz.prog 75 [va,vb] w λr w'=>r=.int .i64 (Jk a b [])/\Ext w w':=by
 refine Jz Tryz.func75 Tryz.ntmps75 rfl kr rfl ?_;refine ρ ?_;refine cl (Qll ha hb (BoolsV.nil w none 0)) ?_;rintro v w1 ⟨rfl,u⟩;refine ρ ?_;exact Jq ⟨rfl,u⟩
theorem Qmh(a b:List V)(ds:List Bool): (Jk a b ds == 0)=true↔a=b:=by
 constructor
 .intro h;exact Jjl _ _ _ (Yp h)
 repeat grind [Vo]
instance:DecidableEq V:=λa b=>if h:cmpV a b=0 then isTrue (cmp_V.zero _ _ h) else isFalse (λe=>h (by rw[e];exact Zr b))
theorem Qmg(a b:List V)(ds:List Bool): (Jk a b ds == 0)=decide (a=b):=by
 rw[Bool.eq_iff_iff,Qmh,decide_eq_true_iff]
theorem Qks(ha:RowV w va a)(hb:RowV w vb b):
  Ret Tryz.prog 78 [va,vb] w λr w'=>r=.bool (decide (a=b))/\Ext w w':=by
 refine Jz Tryz.func78 Tryz.ntmps78 rfl kr rfl ?_;refine ρ ?_;refine cl (Jhg ha hb) ?_;rintro v w1 ⟨rfl,u⟩;refine ρ ?_;refine Jq ⟨?_,u⟩;rw[Qmg]
open Go.RowKit Pl Go.Wk
attribute [local irreducible] WP
variable {j k x:Nat}
def Jv(x:Nat): Nat:=if x=0 then 0 else Nat.log2 x+1
theorem Yt: x<2^Jv x:=by
 unfold Jv;split
 .omega
 exact Nat.lt_log2_self
theorem Gq(h:x≠0): 0<Jv x/\2^(Jv x-1)<=x:=by grind [Jv,Nat.log2_self_le]
theorem Yb(h:x<2^k): Jv x<=k:=by
 unfold Jv;split
 .omega
 rename_i h0;have:=(Nat.log2_lt h0).2 h;omega
theorem Qdw(h1:2^k<=x)(h2:x<2^(k+1)): Jv x=k+1:=by
 have y:=Yb h2;have u:=Yt (x:=x);rcases Nat.lt_or_ge (Jv x) (k+1) with h|h
 .have:=Nat.pow_le_pow_right (show 0<2 by omega) (show Jv x<=k by omega);omega
 omega
theorem Io(h:2^k<=x): Jv x=k+Jv (x / 2^k):=by
 have u:0<2^k:=Nat.pow_pos om;have y:x / 2^k≠0:=by
  have:=(Nat.le_div_iff_mul_le u).2 (show 1*2^k<=x by omega);omega
 obtain⟨a,b⟩:=Gq y;have c:=Yt (x:=x / 2^k);generalize Jv (x / 2^k)=m at *
 obtain⟨m,rfl⟩:∃ j,m=j+1:=⟨m-1,om⟩;rw[Nat.add_sub_cancel]at b;have:=Qdw (x:=x) (k:=k+m) (by grind [Nat.pow_add,Nat.le_div_iff_mul_le,Nat.mul_comm]) (by
  rw[show k+m+1=(m+1)+k by omega,Nat.pow_add];exact(Nat.div_lt_iff_lt_mul u).1 c)
 omega
theorem tabB(s:ByteArray)(h:((List.range 256).all λj=>(s.data.toList.getD j 0).toNat == Jv j)=true)(hj:j<256): (s.data.toList.getD j 0).toNat=Jv j:=by grind
theorem Gg(y k m:Nat): ((y:Int)).fdiv (2^(min ((k:Nat):Int).toNat m))=((y / 2^(min k m):Nat):Int):=by grind
theorem Qdx(x:Nat)(hx:x<18446744073709551616)(w:World): Ret Tryz.prog 156 [.int .u64 (x:Int)] w λv w'=>v=.int .i64 (Jv x:Int)/\w'=w:=by
 refine Jz Tryz.func156 Tryz.ntmps156 rfl kr rfl ?_;refine ρ ?_;refine Ur (fun (y s:Nat)=>[(0,.int .u64 (y:Int)),(2,.int .i64 (s:Int))]) (λy s w'=>w'=w/\Jv x=s+Jv y/\y<4294967296/\s<=32) ?_ ?_
 .refine ci (λh=>?_) (λh=>?_)
  .have G:=oT h;refine ρ ?_;refine Zs rfl rfl (by decide) rfl ?_;refine kv 6 (u:=.int .u64 ((x / 2^32:Nat):Int)) (congrArg (Value.int .u64) (Gg x 32 64)) ?_;refine ρ ?_;have e:=Io (x:=x) (k:=32) om;exact Xl (x / 2^32) 32 sO ⟨rfl,e,om,om⟩
  have G:=oF h;refine ρ ?_;exact Xl x 0 sO ⟨rfl,om,om,om⟩
 rintro F U w ⟨rfl,e0,b0,c0⟩;refine ρ ?_;refine Ur (fun (y s:Nat)=>[(0,.int .u64 (y:Int)),(2,.int .i64 (s:Int))]) (λy s w'=>w'=w/\Jv x=s+Jv y/\y<65536/\s<=48) ?_ ?_
 .refine ci (λh=>?_) (λh=>?_)
  .have G:=oT h;refine ρ ?_;refine Zs rfl rfl (by decide) rfl ?_;refine kv 10 (u:=.int .u64 ((F / 2^16:Nat):Int)) (congrArg (Value.int .u64) (Gg F 16 64)) ?_;refine ρ ?_;have e:=Io (x:=F) (k:=16) om;exact Xl (F / 2^16) (U+16) sO ⟨rfl,om,om,om⟩
  have G:=oF h;refine ρ ?_;exact Xl F U sO ⟨rfl,om,om,om⟩
 rintro D O w ⟨rfl,e1,b1,c1⟩;refine ρ ?_;refine Ur (fun (y s:Nat)=>[(0,.int .u64 (y:Int)),(2,.int .i64 (s:Int))]) (λy s w'=>w'=w/\Jv x=s+Jv y/\y<256/\s<=56) ?_ ?_
 .refine ci (λh=>?_) (λh=>?_)
  .have G:=oT h;refine ρ ?_;refine Zs rfl rfl (by decide) rfl ?_;refine kv 16 (u:=.int .u64 ((D / 2^8:Nat):Int)) (congrArg (Value.int .u64) (Gg D 8 64)) ?_;refine ρ ?_;have e:=Io (x:=D) (k:=8) om;exact Xl (D / 2^8) (O+8) sO ⟨rfl,om,om,om⟩
  have G:=oF h;refine ρ ?_;exact Xl D O sO ⟨rfl,om,om,om⟩
 rintro J s2 w ⟨rfl,e2,Z,c2⟩;refine ρ ?_;refine Jdj Kt J rfl rfl rfl rfl ?_ ?_ rfl ?_
 .rw[IntKind.wrap_u8];omega
 .exact nM Z (by decide)
 refine kv 22 (u:=.int .u8 (Jv J:Int)) (congrArg (λz:Nat=>Value.int .u8 (z:Int)) (tabB _ kr Z)) ?_;have:=Yb (x:=J) (k:=8) om;refine ρ ?_;refine Jq ⟨?_,rfl⟩;grind [Vf,Jv]
theorem Qdz(x:Nat)(hx:x<4294967296)(w:World): Ret Tryz.prog 135 [.int .u32 (x:Int)] w λv w'=>v=.int .i64 (Jv x:Int)/\w'=w:=by
 refine Jz Tryz.func135 Tryz.ntmps135 rfl kr rfl ?_;refine ρ ?_;refine Ur (fun (y s:Nat)=>[(0,.int .u32 (y:Int)),(2,.int .i64 (s:Int))]) (λy s w'=>w'=w/\Jv x=s+Jv y/\y<65536/\s<=16) ?_ ?_
 .refine ci (λh=>?_) (λh=>?_)
  .have G:=oT h;refine ρ ?_;refine Zs rfl rfl (by decide) rfl ?_;refine kv 6 (u:=.int .u32 ((x / 2^16:Nat):Int)) (congrArg (Value.int .u32) (Gg x 16 32)) ?_;refine ρ ?_;have e:=Io (x:=x) (k:=16) om;exact Xl (x / 2^16) 16 sO ⟨rfl,e,om,om⟩
  have G:=oF h;refine ρ ?_;exact Xl x 0 sO ⟨rfl,om,om,om⟩
 rintro D J w ⟨rfl,Z,b0,c0⟩;refine ρ ?_;refine Ur (fun (y s:Nat)=>[(0,.int .u32 (y:Int)),(2,.int .i64 (s:Int))]) (λy s w'=>w'=w/\Jv x=s+Jv y/\y<256/\s<=24) ?_ ?_
 .refine ci (λh=>?_) (λh=>?_)
  .have G:=oT h;refine ρ ?_;refine Zs rfl rfl (by decide) rfl ?_;refine kv 10 (u:=.int .u32 ((D / 2^8:Nat):Int)) (congrArg (Value.int .u32) (Gg D 8 32)) ?_;refine ρ ?_;have e:=Io (x:=D) (k:=8) om;exact Xl (D / 2^8) (J+8) sO ⟨rfl,om,om,om⟩
  have G:=oF h;refine ρ ?_;exact Xl D J sO ⟨rfl,om,om,om⟩
 rintro F O w ⟨rfl,U,b1,c1⟩;refine ρ ?_;refine Jdj Kt F rfl rfl rfl rfl ?_ ?_ rfl ?_
 .rw[IntKind.wrap_u8];omega
 .exact nM b1 (by decide)
 refine kv 16 (u:=.int .u8 (Jv F:Int)) (congrArg (λz:Nat=>Value.int .u8 (z:Int)) (tabB _ kr b1)) ?_;have:=Yb (x:=F) (k:=8) om;refine ρ ?_;refine Jq ⟨?_,rfl⟩;grind [Vf,Jv]
theorem Jcx(x:Nat)(h:x<18446744073709551616)(w:World): Ret Tryz.prog 121 [.int .u64 (x:Int)] w λv w'=>v=.int .i64 (Jv x:Int)/\w'=w:=by
 refine Jz Tryz.func121 Tryz.ntmps121 rfl kr rfl ?_;refine ρ ?_;refine cl (Qdx x h w) ?_;rintro v w' ⟨rfl,rfl⟩;refine ρ ?_;exact Jq ⟨rfl,rfl⟩
end Go.Proofs.YtebiphhfkdbpfaaGreat
namespace Go.Proofs.YtebiphhfkdbpfaaGreat
variable {a a' b b' i j:Nat}
section
variable {α:Type} (z:α)
def swp(q:List α)(i j:Nat): List α:=(q.set i (q.getD j z)).set j (q.getD i z)
theorem Qxt(q:List α)(i j:Nat): (swp z q i j).length=q.length:=by simp[swp]
theorem Jnw(q:List α)(i k:Nat)(x:α)(hi:i<q.length): (q.set i x).getD k z=if k=i then x else q.getD k z:=by grind
theorem Jvg(q:List α)(hi:i<q.length)(hj:j<q.length)(k:Nat): (swp z q i j).getD k z=if k=j then q.getD i z else if k=i then q.getD j z else q.getD k z:=by grind [swp,Jnw]
theorem Ql(q:List α)(h:i<q.length): q.getD i z=q[i]:=by grind
theorem Jft(q:List α)(hi:i<q.length)(hj:j<q.length): (swp z q i j).Perm q:=by grind [swp,Ql,List.set_set_perm]
theorem getD_mem'(q:List α)(h:i<q.length): q.getD i z∈q:=by grind
structure Seg(a b:Nat)(q q':List α): Prop where
 perm:q'.Perm q
 lo:∀ k,k<a->q'.getD k z=q.getD k z
 hi:∀ k,b<=k->q'.getD k z=q.getD k z
variable {z}
theorem Seg.len{q q':List α}(h:Seg z a b q q'): q'.length=q.length:=h.perm.length_eq
theorem Seg.refl(a b:Nat)(q:List α): Seg z a b q q:=⟨List.Perm.refl _,λ_ _=>rfl,λ_ _=>rfl⟩
theorem Seg.trans{a b:Nat}{q q' q'':List α}(h:Seg z a b q q')(k:Seg z a b q' q''): Seg z a b q q'' :=
 ⟨k.perm.trans h.perm,λi hi=>(k.lo i hi).trans (h.lo i hi),λi hi=>(k.hi i hi).trans (h.hi i hi)⟩
theorem Seg.mono{q q':List α}(h:Seg z a b q q')(h1:a'<=a)(h2:b<=b'): Seg z a' b' q q' :=
 ⟨h.perm,λi hi=>h.lo i om,λi hi=>h.hi i om⟩
theorem Seg.swp{q:List α}(h1:a<=i)(h2:i<b)(h3:a<=j)(h4:j<b)(hb:b<=q.length): Seg z a b q (swp z q i j) :=
 ⟨Jft z q om om,λk u=>by grind [Jvg],λk u=>by grind [Jvg]⟩
theorem Jnx{q q':List α}(hl:q'.length=q.length)(h:∀ k,k<q.length->q'.getD k z=q.getD k z): q'=q:=by grind [List.ext_getElem,Ql]
theorem Jnv(q:List α)(a k:Nat)(h:k<a): (q.take a).getD k z=q.getD k z:=by simp[List.getD,h]
theorem Jnz(q:List α)(a k:Nat): (q.drop a).getD k z=q.getD (a+k) z:=by grind
theorem Seg.all{q q':List α}(h:Seg z a b q q')(hab:a<=b)(hb:b<=q.length){Φ:α->Prop}(H:∀ k,a<=k->k<b->Φ (q.getD k z)): ∀ k,a<=k->k<b->Φ (q'.getD k z):=by
 intro k h1 Z;have D:=h.len;have O:q'.take a=q.take a:=Jnx (z:=z) (by simp[D]) (λi hi=>by
  have u:i<a:=by simp at hi;omega
  rw[Jnv _ _ _ u,Jnv _ _ _ u];exact h.lo i u)
 have J:q'.drop b=q.drop b:=Jnx (z:=z) (by simp[D]) (λi hi=>by
  rw[Jnz,Jnz];exact h.hi _ om)
 have s:∀ l:List α,l=l.take a++((l.take b).drop a++l.drop b):=λl=>by grind [List.append_assoc,List.take_append_drop]
 have p:=h.perm;rw[s q',s q,O,J]at p;have F:=(List.perm_append_right_iff _).1 ((List.perm_append_left_iff _).1 p);have G:q'.getD k z∈(q'.take b).drop a:=by
  have e:((q'.take b).drop a).getD (k-a) z=q'.getD k z:=by grind
  grind [getD_mem']
 have y:=F.mem_iff.1 G;obtain⟨i,hi,U⟩:=List.getElem_of_mem y;have:((q.take b).drop a).getD i z=q'.getD k z:=by grind
 grind
end
section
variable {α:Type} (z:α) (f:α->α->Int)
def SOn(q:List α)(a b:Nat): Prop:=∀ i j,a<=i->i<j->j<b->f (q.getD i z) (q.getD j z)<=0
variable {z f}
theorem SOn.mono{q:List α}(h:SOn z f q a b)(h1:a<=a')(h2:b'<=b): SOn z f q a' b':=λi j hi u y=>h i j om u om
theorem SOn.same{q q':List α}(h:SOn z f q a b)(he:∀ k,a<=k->k<b->q'.getD k z=q.getD k z): SOn z f q' a b:=λi j hi u y=>by
 rw[he i hi om,he j om y];exact h i j hi u y
theorem SOn.one(q:List α)(h:b<=a+1): SOn z f q a b:=λi j hi u y=>by omega
def InsI(z:α)(f:α->α->Int)(q:List α)(a i j:Nat): Prop:=a<=j/\j<=i/\(∀ k m,a<=k->k<m->m<=i->k≠j->m≠j->f (q.getD k z) (q.getD m z)<=0)/\(∀ m,j<m->m<=i->f (q.getD j z) (q.getD m z)<=0)
theorem InsI.start{q:List α}(h:SOn z f q a i)(hi:a<=i): InsI z f q a i i :=
 ⟨hi,Nat.le_refl _,λk m y u G F D=>h k m y u om,λm y u=>om⟩
theorem InsI.step{q:List α}(h:InsI z f q a i j)(hj:a<j)(hi:i<q.length)(hlt:f (q.getD j z) (q.getD (j-1) z)<0): InsI z f (swp z q j (j-1)) a i (j-1):=by
 obtain⟨Z,U,O,J⟩:=h;have s:=λk=>Jvg z q (i:=j) (j:=j-1) om om k;refine⟨om,om,λk m y u G F D=>?_,λm y u=>?_⟩;repeat grind
theorem InsI.done0{q:List α}(h:InsI z f q a i a): SOn z f q a (i+1):=by
 obtain⟨O,J,G,F⟩:=h;intro k m D y u;grind
theorem InsI.done{q:List α}(hf:PreC f)(h:InsI z f q a i j)(hj:a<j)(hge:¬ f (q.getD j z) (q.getD (j-1) z)<0): SOn z f q a (i+1):=by
 obtain⟨U,O,D,J⟩:=h;have u:f (q.getD (j-1) z) (q.getD j z)<=0:=by have:=hf.anti (q.getD j z) (q.getD (j-1) z);omega
 intro k m y G F;by_cases e:k=j
 .grind
 by_cases e2:m=j
 .subst e2;by_cases e3:k=m-1
  .rw[e3];exact u
  exact hf.trans _ _ _ (D k (m-1) y om om e om) u
 repeat grind
end
open Go.RowKit Pl Go.Wk
attribute [local irreducible] WC WL QX WD WDB WP
variable {ds:List Bool}{base c i j n:Nat}{A:Option Addr}{fv v:Value}{w w' w1:World}
abbrev Pr:= Value×List V
def z0: Pr:=(undef,[])
def Dat(w:World)(base:Nat)(v:Value)(ps:List Pr): Prop:=w.ownsRow base 73 1 v ps.length (ps.map (·.1))/\∀ p∈ps,p.1.oneCell'=true
theorem Dat.ext{ps:List Pr}(h:Dat w base v ps)(hx:Ext w w'): Dat w' base v ps:=⟨Jb h.1 hx,h.2⟩
theorem Dat.rd{ps:List Pr}(h:Dat w base (.slice A n c) ps)(hn:ps.length=n): Rd w 1 A n (ps.map (·.1)):=by
 have:=h.1;rw[hn]at this;exact Rd.own this
theorem Gs{ps:List Pr}(h:i<ps.length): (ps.map (·.1))[i]?=some (ps.getD i z0).1:=by grind
theorem Dat.cell{w:World}{base:Nat}{A:Option Addr}{n c:Nat}{ps:List Pr}(h:Dat w base (.slice A n c) ps)(hn:ps.length=n){i:Nat}(hi:i<n): w.cell? (adr A i)=some (ps.getD i z0).1 :=
 (h.rd hn).cell (Gs om)
theorem Dat.one{ps:List Pr}(h:Dat w base v ps)(hi:i<ps.length): (ps.getD i z0).1.oneCell'=true:=h.2 _ (getD_mem' z0 ps hi)
theorem Dat.store{ps:List Pr}(h:Dat w base (.slice A n c) ps)(hn:ps.length=n)(hi:i<n){p:Pr}(hp:p.1.oneCell'=true):
  w.frozen? (adr A i)=false/\Dat (w.setCell (adr A i) p.1) base (.slice A n c) (ps.set i p)/\w.grownBy (w.setCell (adr A i) p.1) (Value.slice A n c).ownBlock:=by
 have u:=h.1;rw[hn]at u;obtain⟨O,D,J,G,y⟩:=Zl u (q:=i) om p.1;refine⟨D,⟨?_,λq F=>?_⟩,y⟩
 .grind [List.length_set,List.map_set]
 rcases List.mem_or_eq_of_mem_set F with h'|h'
 .exact h.2 q h'
 rw[h'];exact hp
theorem Dat.swap{ps:List Pr}(h:Dat w base (.slice A n c) ps)(hn:ps.length=n)(hi:i<n)(hj:j<n):
  w.frozen? (adr A i)=false/\Rd (w.setCell (adr A i) (ps.getD j z0).1) 1 A n ((ps.set i (ps.getD j z0)).map (·.1))/\(w.setCell (adr A i) (ps.getD j z0).1).frozen? (adr A j)=false /\
  (∃ u,(w.setCell (adr A i) (ps.getD j z0).1).cell? (adr A j)=some u)/\Dat ((w.setCell (adr A i) (ps.getD j z0).1).setCell (adr A j) (ps.getD i z0).1) base (.slice A n c) (swp z0 ps i j) /\
  w.grownBy ((w.setCell (adr A i) (ps.getD j z0).1).setCell (adr A j) (ps.getD i z0).1) (Value.slice A n c).ownBlock:=by
 obtain⟨O,D,J⟩:=h.store hn hi (p:=ps.getD j z0) (h.one om);have y:(ps.set i (ps.getD j z0)).length=n:=by simp[hn]
 obtain⟨b1,G,F⟩:=D.store y hj (p:=ps.getD i z0) (h.one om);exact⟨O,D.rd y,b1,⟨_,D.cell y hj⟩,G,Xv J F⟩
def fP(ds:List Bool)(p q:Pr): Int:=Jk p.2 q.2 ds
theorem preP(ds:List Bool): PreC (fP ds):=(Gk ds).pre (β:=Pr) (λp=>p.2)
def CmpF(w:World)(row:Option Nat)(fv:Value)(M:List Pr)(ds:List Bool): Prop:=∃ fid first cap,fv=.func (.func fid) first cap /\
 ∀ w',w.grownBy w' row->∀ p q,p∈M->q∈M->Ret Tryz.prog fid (first.toList++[p.1,q.1]++cap.toList) w' λr w''=>r=.int .i64 (fP ds p q)/\Ext w' w''
theorem CmpF.step{row:Option Nat}{M M':List Pr}(h:CmpF w row fv M ds)(hg:w.grownBy w1 row)(hp:M'.Perm M): CmpF w1 row fv M' ds:=by
 obtain⟨F,first,G,O,J⟩:=h;exact⟨F,first,G,O,λw' D p q y u=>J w' (Xv hg D) p q (hp.mem_iff.1 y) (hp.mem_iff.1 u)⟩
theorem Qfv{a b:Nat}{ai bi:Int}{ps:List Pr}(hD:Dat w base (.slice A n c) ps)(hn:ps.length=n)(hai:ai=(a:Int))(hbi:bi=(b:Int))(hb:b<=n)(ha:a<=n)(hmx:n<=140737488355328)(hC:CmpF w (Value.slice A n c).ownBlock fv ps ds):
  Ret Tryz.prog 148 [.slice A n c,.int .i64 ai,.int .i64 bi,fv] w λv w'=>∃ ps',Dat w' base (.slice A n c) ps'/\Seg z0 a b ps ps'/\SOn z0 (fP ds) ps' a b/\w.grownBy w' (Value.slice A n c).ownBlock:=by
 subst hai;subst hbi;obtain⟨aa,first,ac,rfl,hC⟩:=hC;refine Jz Tryz.func148 Tryz.ntmps148 rfl kr rfl ?_;refine ρ ?_;refine Qd (fun (i:Nat) (q:List Pr)=>[(0,.slice A n c),(1,.int .i64 (a:Int)),(2,.int .i64 (b:Int)),(3,.func (.func aa) first ac),(8,.int .i64 ((i:Nat):Int))])
  (λi q w'=>a+1<=i/\(i<=b∨i=a+1)/\Seg z0 a b ps q/\SOn z0 (fP ds) q a i/\Dat w' base (.slice A n c) q/\w.grownBy w' (Value.slice A n c).ownBlock) (λi _=>b+1-i) (a+1) ps sO
  ⟨nR _,.inr rfl,Seg.refl _ _ _,SOn.one _ om,hD,Xc (Ext.refl w) _⟩ ?_
 rintro i q w1 ⟨hai,ah,a6,a7,a9,a5⟩;refine ρ ?_;refine ci (λh=>?_) (λh=>?_)
 .have af:i<b:=by have:=oT h;omega
  refine ρ ?_;refine Qd (fun (j:Nat) (q:List Pr)=>[(0,.slice A n c),(1,.int .i64 (a:Int)),(2,.int .i64 (b:Int)),(3,.func (.func aa) first ac),(8,.int .i64 ((i:Nat):Int)),(9,.int .i64 ((j:Nat):Int))])
   (λj q w'=>InsI z0 (fP ds) q a i j/\Seg z0 a b ps q/\Dat w' base (.slice A n c) q/\w.grownBy w' (Value.slice A n c).ownBlock) (λj _=>j) i q sB ⟨InsI.start a7 om,a6,a9,a5⟩ ?_
  rintro j q w2 ⟨hI,G,ae,ad⟩;have y:q.length=n:=by rw[G.len,hn]
  obtain⟨h1,h2,_,_⟩:=id hI;refine ρ ?_;refine dr [(0,0),(0,1),(0,2),(0,3),(0,4),(0,5),(0,6),(0,7),(0,8),(0,9),(0,10),(0,11),(0,12),(0,13),(1,14),(0,15),(0,16)] kr ?_;have a3:Ext w2 w2.drew:=(Ext.refl w2).drew;have J:=ae.ext a3;have a1:=Xv ad (Xc a3 _);refine ρd ?_;refine dki 21 (λh=>?_) (λh=>?_)
  .have hj:a<j:=by have:=oT h;omega
   have U:j<n:=om
   have F:j-1<n:=om
   refine ρd ?_;refine dix j (J.rd y) U ?_;refine ρd ?_;refine dld (J.cell y U) ?_;refine ρd ?_;refine dix (j-1) (J.rd y) F ?_;refine ρd ?_;refine dld (J.cell y F) ?_;refine ρd ?_;refine Zc (hC _ a1 (q.getD j z0) (q.getD (j-1) z0) (G.perm.mem_iff.1 (getD_mem' z0 q om)) (G.perm.mem_iff.1 (getD_mem' z0 q om))) ?_;rintro r w4 ⟨rfl,Z⟩;refine⟨Z,?_⟩;have a8:=J.ext Z;have a4:=Xv a1 (Xc Z _);refine ρd ?_;refine ρ ?_;refine ci (λh=>?_) (λh=>?_)
   .have O:=oT h;refine ρ ?_;refine drC 4 [0,1,2,3,4,5,6,7,10,11] [(0,8),(0,9),(0,12),(0,13),(0,14),(2,15),(2,16),(2,17)] kr ?_;have a2:Ext w4 w4.drew:=(Ext.refl w4).drew;have D:=a8.ext a2;obtain⟨s1,s2,s3,⟨u,s4⟩,s5,s6⟩:=D.swap y U F;refine ρp ?_;refine dix (j-1) (D.rd y) F ?_;refine ρd ?_;refine dld (D.cell y F) ?_;refine ρd ?_;refine dix j (D.rd y) U ?_;refine ρd ?_;refine dld (D.cell y U) ?_;refine ρd ?_;refine dix j (D.rd y) U ?_;refine ρd ?_;refine Jf ?_;refine sto (D.cell y U) s1 ?_ (hv:=D.one (y.symm ▸ F));refine ρ ?_;refine Qh ?_;refine Jf ?_;refine ix (j-1) s2 F ?_;refine ρ ?_;refine Qh ?_;refine Jf ?_;refine sto s4 s3 ?_ (hv:=D.one (y.symm ▸ U));refine ρ ?_;exact Qv (j-1) (swp z0 q j (j-1)) sO ⟨hI.step hj om O,G.trans (Seg.swp om om om om om),s5,Xv a4 (Xv (Xc a2 _) s6)⟩ om
   have O:=oF h;refine ρ ?_;exact Qv (i+1) q sB ⟨om,om,G,hI.done (preP ds) hj O,a8,a4⟩ om
  have hj:j=a:=by have:=oF h;omega
  subst hj;refine ρd ?_;refine ρ ?_;exact Qv (i+1) q sB ⟨om,om,G,hI.done0,J,a1⟩ om
 refine ρ ?_;have hbi:b<=i:=by grind
 exact Ve ⟨q,a9,a6,a7.mono (nR _) hbi,a5⟩
end Go.Proofs.YtebiphhfkdbpfaaGreat
namespace Go.Wk
variable {a b:Int}{k1 k2:IntKind}{x y:Operand}{t yt:TypeId}
section
variable {P:Program} {n:Nat} {al:AL} {w:World} {Q:Exit->Act->World->Prop} {ops:Array Oper} {rest:List Oper} {d ty:Nat} {pos:String} {aft:Array Edge}
theorem qn(m q:Nat)(k:WL P n ops Q rest ((d,.int .i64 ((m / q:Nat):Int))::al) w)(hx:ev al x=some (.int .i64 a):=by rfl)(hy:ev al y=some (.int .i64 b):=by rfl)(ha:a=(m:Int):=by first|rfl|omega)(hb:b=(q:Int):=by first|rfl|omega)(h0:0<q:=by omega)(hm:m<=9223372036854775807:=by omega)(hd:Nat.blt d n=true:=by rfl): WL P n ops Q (⟨some d,.binOp .quo t x y yt,ty,pos,aft,none⟩::rest) al w:=by
 subst ha;subst hb;refine Jjr hx hy om hd ?_;have e:IntKind.i64.wrap ((m:Int).tdiv (q:Int))=((m / q:Nat):Int):=by
  rw[Int.tdiv_eq_ediv_of_nonneg om,<-Int.natCast_ediv];have:=Nat.div_le_self m q;generalize m / q=r at *
  exact Vf om
 rw[e];exact k
variable {drest:List (Nat×Oper)}
theorem dshl(k:WD P n ops Q drest ((d,.int k1 (k1.wrap (a*2^(min b.toNat k1.bits))))::al) w)(hx:ev al x=some (.int k1 a):=by rfl)(hy:ev al y=some (.int k2 b):=by rfl)(h0:0<=b:=by decide)(hd:Nat.blt d n=true:=by rfl):
  WD P n ops Q ((0,⟨some d,.binOp .shl t x y yt,ty,pos,aft,none⟩)::drest) al w :=
 dy (λw' _ e u=>by
  have D:¬ b<0:=om
  simp[execOp,u.ev hx,u.ev hy,eqGuard,binOp,Op.shift,D]) hd k
theorem dshr(k:WD P n ops Q drest ((d,.int k1 (a.fdiv (2^(min b.toNat k1.bits))))::al) w)(hx:ev al x=some (.int k1 a):=by rfl)(hy:ev al y=some (.int k2 b):=by rfl)(h0:0<=b:=by decide)(hd:Nat.blt d n=true:=by rfl):
  WD P n ops Q ((0,⟨some d,.binOp .shr t x y yt,ty,pos,aft,none⟩)::drest) al w :=
 dy (λw' _ e u=>by
  have D:¬ b<0:=om
  simp[execOp,u.ev hx,u.ev hy,eqGuard,binOp,Op.shift,D]) hd k
end
end Go.Wk
namespace Go.Proofs.YtebiphhfkdbpfaaGreat
open Go.RowKit Pl Go.Wk
attribute [local irreducible] WC WL QX WD WDB WP
variable {cap first:Array Value}{fid:FuncId}{ai bi fsti hii loi:Int}{ds:List Bool}{M ps q q':List Pr}{a b base c fst g hi i j lo n t:Nat}{A:Option Addr}{x y:Pr}{w w' w0 w1:World}
structure DP(w0 w:World)(base:Nat)(A:Option Addr)(n c:Nat)(ps q:List Pr): Prop where
 d:Dat w base (.slice A n c) q
 p:q.Perm ps
 g:w0.grownBy w (Value.slice A n c).ownBlock
 l:q.length=n
section
variable {w0 w w':World} {base:Nat} {A:Option Addr} {n c:Nat} {ps q:List Pr}
theorem DP.start(hD:Dat w base (.slice A n c) ps)(hn:ps.length=n): DP w w base A n c ps ps:=⟨hD,List.Perm.refl _,Xc (Ext.refl w) _,hn⟩
theorem DP.ext(h:DP w0 w base A n c ps q)(hx:Ext w w'): DP w0 w' base A n c ps q:=⟨h.d.ext hx,h.p,Xv h.g (Xc hx _),h.l⟩
theorem DP.drew(h:DP w0 w base A n c ps q): DP w0 w.drew base A n c ps q:=h.ext (Ext.refl w).drew
theorem DP.rd(h:DP w0 w base A n c ps q): Rd w 1 A n (q.map (·.1)):=h.d.rd h.l
theorem DP.cell(h:DP w0 w base A n c ps q){i:Nat}(hi:i<n): w.cell? (adr A i)=some (q.getD i z0).1:=h.d.cell h.l hi
theorem DP.one(h:DP w0 w base A n c ps q){i:Nat}(hi:i<n): (q.getD i z0).1.oneCell'=true:=h.d.one (h.l.symm ▸ hi)
theorem DP.swap(h:DP w0 w base A n c ps q){i j:Nat}(hi:i<n)(hj:j<n):
  w.frozen? (adr A i)=false/\Rd (w.setCell (adr A i) (q.getD j z0).1) 1 A n ((q.set i (q.getD j z0)).map (·.1))/\(w.setCell (adr A i) (q.getD j z0).1).frozen? (adr A j)=false /\
  (∃ u,(w.setCell (adr A i) (q.getD j z0).1).cell? (adr A j)=some u)/\DP w0 ((w.setCell (adr A i) (q.getD j z0).1).setCell (adr A j) (q.getD i z0).1) base A n c ps (swp z0 q i j)/\w.grownBy ((w.setCell (adr A i) (q.getD j z0).1).setCell (adr A j) (q.getD i z0).1) (Value.slice A n c).ownBlock:=by
 obtain⟨O,J,G,F,D,y⟩:=h.d.swap h.l hi hj;exact⟨O,J,G,F,⟨D,(Jft z0 q (h.l.symm ▸ hi) (h.l.symm ▸ hj)).trans h.p,Xv h.g y,by rw[Qxt];exact h.l⟩,y⟩
theorem DP.box(h:DP w0 w base A n c ps q){cs:List Value}(hB:Blk w g t cs)(hne:Nat.beq 73 t=false)(hg:w0.heap.size<=g)(u:Value): DP w0 (w.setCell ⟨g,0,none⟩ u) base A n c ps q:=by
 have D:w.grownBy (w.setCell ⟨g,0,none⟩ u) (some g):=⟨rfl,rfl,rfl,by simp[World.setCell],λk y hn=>Below.heap_setCell w ⟨g,0,none⟩ u k (λe=>hn (by rw[e]))⟩;refine⟨⟨h.d.1.kept D (Or.inr ?_),h.d.2⟩,h.p,?_,h.l⟩
 .exactλe=>hB.ne_own h.d.1 hne e.symm
 refine⟨h.g.os,h.g.tape,h.g.output,?_,λk y hn=>?_⟩
 .simp[World.setCell];exact h.g.size
 exact(Below.heap_setCell w ⟨g,0,none⟩ u k (by simp;omega)).trans (h.g.block k y hn)
end
def CF(w:World)(row:Option Nat)(fid:FuncId)(first cap:Array Value)(M:List Pr)(ds:List Bool): Prop :=
 ∀ w',w.grownBy w' row->∀ p q,p∈M->q∈M->Ret Tryz.prog fid (first.toList++[p.1,q.1]++cap.toList) w' λr w''=>r=.int .i64 (fP ds p q)/\Ext w' w''
theorem CF.call(hC:CF w0 (Value.slice A n c).ownBlock fid first cap ps ds)(h:DP w0 w base A n c ps q)(hi:i<n)(hj:j<n):
  Ret Tryz.prog fid (first.toList++[(q.getD i z0).1,(q.getD j z0).1]++cap.toList) w λr w''=>∃ b:Int,r=.int .i64 b/\Ext w w'' :=
 (hC w h.g _ _ (h.p.mem_iff.1 (getD_mem' z0 q (h.l.symm ▸ hi))) (h.p.mem_iff.1 (getD_mem' z0 q (h.l.symm ▸ hj)))).mono λr w'' ⟨y,u⟩=>⟨_,y,u⟩
theorem CF.callV(hC:CF w0 (Value.slice A n c).ownBlock fid first cap ps ds)(h:DP w0 w base A n c ps q)(hi:i<n)(hj:j<n):
  Ret Tryz.prog fid (first.toList++[(q.getD i z0).1,(q.getD j z0).1]++cap.toList) w λr w''=>r=.int .i64 (fP ds (q.getD i z0) (q.getD j z0))/\Ext w w'' :=
 hC w h.g _ _ (h.p.mem_iff.1 (getD_mem' z0 q (h.l.symm ▸ hi))) (h.p.mem_iff.1 (getD_mem' z0 q (h.l.symm ▸ hj)))
instance instPr: Inhabited Pr:=⟨z0⟩
def ltP(ds:List Bool)(p q:Pr): Bool:=decide (fP ds p q<0)
theorem az(q:List Pr)(i:Nat): q.toArray[i]! = q.getD i z0:=by
 rw[getElem!_def];simp only[List.getElem?_toArray,List.getD];cases q[i]?<;>rfl
theorem swz(q:List Pr)(i j:Nat): Go.Sort.swp q.toArray i j=(swp z0 q i j).toArray:=by
 unfold Go.Sort.swp swp;rw[az,az,List.setIfInBounds_toArray,List.setIfInBounds_toArray]
theorem Jyz(h:ltP ds x y=true): Jk x.2 y.2 ds<0:=oT (p:=fP ds x y<0) h
theorem Ie(h:ltP ds x y=false): Jk y.2 x.2 ds<=0:=by
 have u:¬ Jk x.2 y.2 ds<0:=oF (p:=fP ds x y<0) h;have:=Jxg x.2 y.2 ds;omega
theorem ltP_f'(h:Jk y.2 x.2 ds<=0): ltP ds x y=false:=dF (p:=fP ds x y<0) (by
 have:=Jxg x.2 y.2 ds;show¬ Jk x.2 y.2 ds<0;omega)
theorem swoP(ds:List Bool): Go.Sort.SWO (ltP ds) :=
 ⟨λx=>ltP_f' (by rw[Vo];exact Int.le_refl _),λx y z D u=>decide_eq_true (p:=fP ds x z<0) ((Gk ds).lt_le (Jyz D) (Int.le_of_lt (Jyz u))),
  λx y z D u=>ltP_f' (Jwc z.2 y.2 x.2 ds (Ie u) (Ie D))⟩
theorem DP.seg(h:DP w0 w base A n c ps q)(k:Go.Sort.PermIn a b ps.toArray q.toArray): Seg z0 a b ps q :=
 ⟨h.p,λi hi=>by have:=k.2.1 i (.inl hi);rwa [az,az]at this,λi hi=>by have:=k.2.1 i (.inr hi);rwa [az,az]at this⟩
theorem Jfz(h:Go.Sort.SortedIn (ltP ds) a b q.toArray): SOn z0 (fP ds) q a b:=λi j hi u y=>by
 have:=h i j hi u y;rw[az,az]at this;exact Ie this
theorem Qzr(ds:List Bool)(hi fst root:Nat)(q:List Pr): Go.Sort.siftDown (ltP ds) hi fst root q.toArray=if 2*root+1 ≥ hi then q.toArray else
  if ltP ds (q.getD (fst+root) z0) (q.getD (fst+(if(decide (2*root+2<hi) && ltP ds (q.getD (fst+(2*root+1)) z0) (q.getD (fst+(2*root+1)+1) z0))=true then 2*root+2 else 2*root+1)) z0)=true then
   Go.Sort.siftDown (ltP ds) hi fst (if(decide (2*root+2<hi) && ltP ds (q.getD (fst+(2*root+1)) z0) (q.getD (fst+(2*root+1)+1) z0))=true then 2*root+2 else 2*root+1)
    (swp z0 q (fst+root) (fst+(if(decide (2*root+2<hi) && ltP ds (q.getD (fst+(2*root+1)) z0) (q.getD (fst+(2*root+1)+1) z0))=true then 2*root+2 else 2*root+1))).toArray
  else q.toArray:=by
 rw[Go.Sort.siftDown];by_cases h1:2*root+1 ≥ hi
 .rw[dif_pos h1,if_pos h1]
 rw[dif_neg h1,if_neg h1];simp only[az,swz];by_cases h2:(decide (2*root+2<hi) && ltP ds (q.getD (fst+(2*root+1)) z0) (q.getD (fst+(2*root+1)+1) z0))=true
 .have u:2*root+2<hi:=by simp at h2;exact h2.1
  rw[if_pos (show(decide (2*root+1+1<hi) && ltP ds (q.getD (fst+(2*root+1)) z0) (q.getD (fst+(2*root+1)+1) z0))=true from h2),if_pos h2,dif_pos u];cases ltP ds (q.getD (fst+root) z0) (q.getD (fst+(2*root+2)) z0)<;>simp
 rw[if_neg (show¬ (decide (2*root+1+1<hi) && ltP ds (q.getD (fst+(2*root+1)) z0) (q.getD (fst+(2*root+1)+1) z0))=true from h2),if_neg h2];cases ltP ds (q.getD (fst+root) z0) (q.getD (fst+(2*root+1)) z0)<;>simp
theorem CF.pack{row:Option Nat}(h:CF w row fid first cap M ds): CmpF w row (.func (.func fid) first cap) M ds:=⟨fid,first,cap,rfl,h⟩
theorem CF.step(hC:CF w (Value.slice A n c).ownBlock fid first cap ps ds)(h:DP w w1 base A n c ps q): CF w1 (Value.slice A n c).ownBlock fid first cap q ds :=
 λw' u a b D y=>hC w' (Xv h.g u) a b (h.p.mem_iff.1 D) (h.p.mem_iff.1 y)
theorem DP.after(h:DP w0 w base A n c ps q)(k:DP w w' base A n c q q'): DP w0 w' base A n c ps q':=⟨k.d,k.p.trans h.p,Xv h.g k.g,k.l⟩
theorem Qwh(hD:Dat w base (.slice A n c) ps)(hn:ps.length=n)(hmx:n<=140737488355328)(hC:CF w (Value.slice A n c).ownBlock fid first cap ps ds)(hai:ai=(a:Int))(hbi:bi=(b:Int))(hab:a<b)(hb:b<=n):
  Ret Tryz.prog 152 [.slice A n c,.int .i64 ai,.int .i64 bi,.func (.func fid) first cap] w λv w'=>∃ ps',DP w w' base A n c ps ps'/\Seg z0 a b ps ps':=by
 subst hai;subst hbi;refine Jz Tryz.func152 Tryz.ntmps152 rfl kr rfl ?_;refine ρ ?_;refine Zk (fun (i j:Nat) (q:List Pr)=>[(0,.slice A n c),(8,.int .i64 (i:Int)),(9,.int .i64 ((j:Int)-1))])
  (λi j q w'=>DP w w' base A n c ps q/\j<=b/\a<=i/\i<=n/\Seg z0 a b ps q) (λi j _=>n+j-i) a b ps sO ⟨DP.start hD hn,Nat.le_refl _,Nat.le_refl _,om,Seg.refl _ _ _⟩ ?_
 rintro i j q w1 ⟨H,hj,hai,hi,G⟩;refine ρ ?_;refine ci (λh=>?_) (λh=>?_)
 .have a1:i+1<j:=by have:=oT h;omega
  have D:i<n:=om
  have F:j-1<n:=om
  refine ρ ?_;refine drC 4 [0,1,2,3,4,5,8,9] [(0,6),(0,7),(0,10),(0,11),(0,12),(2,13),(2,14),(2,15)] kr ?_;have y:=H.drew;obtain⟨s1,Z,U,⟨u,O⟩,J,s6⟩:=y.swap D F;refine ρp ?_;refine dix (j-1) y.rd F ?_;refine ρd ?_;refine dld (y.cell F) ?_;refine ρd ?_;refine dix (i) y.rd D ?_;refine ρd ?_;refine dld (y.cell D) ?_;refine ρd ?_;refine dix (i) y.rd D ?_;refine ρd ?_;refine Jf ?_;refine sto (y.cell D) s1 ?_ (hv:=y.one F);refine ρ ?_;refine Qh ?_;refine Jf ?_;refine ix (j-1) Z F ?_;refine ρ ?_;refine Qh ?_;refine Jf ?_;refine sto O U ?_ (hv:=y.one D);refine ρ ?_;exact Qa (i+1) (j-1) (swp z0 q i (j-1)) sO ⟨J,om,om,om,G.trans (Seg.swp om om om om (by rw[H.l];exact hb))⟩ om
 refine ρ ?_;exact Ve ⟨q,H,G⟩
theorem Jgd(hD:Dat w base (.slice A n c) ps)(hn:ps.length=n)(hmx:n<=140737488355328)(hC:CF w (Value.slice A n c).ownBlock fid first cap ps ds)(hlo:loi=(lo:Int))(hhi:hii=(hi:Int))(hfst:fsti=(fst:Int))(hb:fst+hi<=n)(hl:lo<=n):
  Ret Tryz.prog 174 [.slice A n c,.int .i64 loi,.int .i64 hii,.int .i64 fsti,.func (.func fid) first cap] w λv w'=>∃ ps',DP w w' base A n c ps ps'/\Go.Sort.siftDown (ltP ds) hi fst lo ps.toArray=ps'.toArray:=by
 subst hlo;subst hhi;subst hfst;refine Jz Tryz.func174 Tryz.ntmps174 rfl kr rfl ?_;refine ρ ?_;refine Qd (fun (y:Nat) (q:List Pr)=>[(0,.slice A n c),(2,.int .i64 (hi:Int)),(3,.int .i64 (fst:Int)),(4,.func (.func fid) first cap),(10,.int .i64 (y:Int))])
  (λy q w'=>DP w w' base A n c ps q/\y<=n/\Go.Sort.siftDown (ltP ds) hi fst lo ps.toArray=Go.Sort.siftDown (ltP ds) hi fst y q.toArray) (λy _=>n-y) lo ps sB ⟨DP.start hD hn,hl,rfl⟩ ?_
 rintro y q w1 ⟨H,hr,J⟩;rw[Qzr ds hi fst y q]at J;refine ρ ?_;refine ci (λh=>?_) (λh=>?_)
 .rw[if_pos (show 2*y+1 ≥ hi by have:=oT h;omega)]at J;refine ρ ?_;exact Ve ⟨q,H,J⟩
 have a9:2*y+1<hi:=by have:=oF h;omega
 rw[if_neg (show¬ 2*y+1 ≥ hi by omega)]at J;refine ρ ?_;refine Xg (fun (b:Bool)=>[(0,.slice A n c),(2,.int .i64 (hi:Int)),(3,.int .i64 (fst:Int)),(4,.func (.func fid) first cap),(10,.int .i64 (y:Int)),(11,.int .i64 (2*(y:Int)+1)),(40,.bool b)]) (λb w'=>DP w w' base A n c ps q/\(b=true->2*y+2<hi)/\b=(decide (2*y+2<hi) && ltP ds (q.getD (fst+(2*y+1)) z0) (q.getD (fst+(2*y+1)+1) z0))) ?_ ?_
 .skip
  refine dr [(0,0),(0,1),(0,2),(0,3),(0,4),(0,5),(0,6),(0,7),(0,8),(0,9),(0,10),(0,11),(0,12),(0,13),(0,14),(0,15),(0,16),(0,17),(0,18),(1,19),(0,20),(0,21)] kr ?_;have Hd:=H.drew;refine ρd ?_;refine dki 23 (λh=>?_) (λh=>?_)
  .have a2:2*y+2<hi:=by have:=oT h;omega
   have li:fst+(2*y+1)<n:=om
   have lj:fst+(2*y+1)+1<n:=om
   refine ρd ?_;refine dix (fst+(2*y+1)) Hd.rd li ?_;refine ρd ?_;refine dld (Hd.cell li) ?_;refine ρd ?_;refine dix (fst+(2*y+1)+1) Hd.rd lj ?_;refine ρd ?_;refine dld (Hd.cell lj) ?_;refine ρd ?_;refine Zc (hC.callV Hd li lj) ?_;rintro r a7 ⟨rfl,a1⟩;refine⟨a1,?_⟩;have H2:=Hd.ext a1;refine ρd ?_;refine ρ ?_;exact Js _ sB ⟨H2,λ_=>a2,by rw[decide_eq_true a2];rfl⟩
  refine ρd ?_;refine ρ ?_;exact Js false sB ⟨Hd,(λe=>by cases e),by rw[decide_eq_false (show¬ 2*y+2<hi by have:=oF h;omega)];rfl⟩
 rintro b w2 ⟨H2,a5,a4⟩;rw[<-a4]at J;refine Xg (fun (D:Nat)=>[(0,.slice A n c),(2,.int .i64 (hi:Int)),(3,.int .i64 (fst:Int)),(4,.func (.func fid) first cap),(10,.int .i64 (y:Int)),(11,.int .i64 (D:Int))]) (λD w'=>DP w w' base A n c ps q/\y<D/\D<hi/\D=if b=true then 2*y+2 else 2*y+1) ?_ ?_
 .refine ci (λh=>?_) (λh=>?_)
  .have:=a5 h;refine ρ ?_;exact Js (2*y+2) sO ⟨H2,om,om,by rw[if_pos h]⟩
  refine ρ ?_;exact Js (2*y+1) sO ⟨H2,om,om,by rw[if_neg (by rw[h];decide)]⟩
 rintro D w3 ⟨H3,a2,a8,a3⟩;rw[<-a3]at J;have O:fst+y<n:=om
 have U:fst+D<n:=om
 refine ρ ?_;refine dr [(0,0),(0,1),(0,2),(0,3),(0,4),(0,5),(0,6),(0,7),(0,8),(0,9),(0,10),(0,11),(0,12),(1,13),(0,14),(0,15)] kr ?_;have G:=H3.drew;refine ρd ?_;refine ρd ?_;refine dix (fst+y) G.rd O ?_;refine ρd ?_;refine dld (G.cell O) ?_;refine ρd ?_;refine dix (fst+D) G.rd U ?_;refine ρd ?_;refine dld (G.cell U) ?_;refine ρd ?_;refine Zc (hC.callV G O U) ?_;rintro r a6 ⟨rfl,Z⟩;refine⟨Z,?_⟩;have H4:=G.ext Z;refine ρd ?_;refine ρ ?_;refine ci (λh=>?_) (λh=>?_)
 .have hf:ltP ds (q.getD (fst+y) z0) (q.getD (fst+D) z0)=false:=by simpa [ltP] using h
  rw[if_neg (by rw[hf];decide)]at J;refine ρ ?_;exact Jqz ⟨q,H4,J⟩
 have ht:ltP ds (q.getD (fst+y) z0) (q.getD (fst+D) z0)=true:=by simpa [ltP] using h
 rw[if_pos ht]at J;refine ρ ?_;refine drC 4 [0,1,2,3,4,5,6,7,8,9,10,11,14,15,16,17] [(0,12),(0,13),(0,18),(0,19),(0,20),(2,21),(2,22),(2,23)] kr ?_;have F:=H4.drew;obtain⟨s1,s2,s3,⟨u,s4⟩,s5,s6⟩:=F.swap O U;refine ρp ?_;refine dix (fst+D) F.rd U ?_;refine ρd ?_;refine dld (F.cell U) ?_;refine ρd ?_;refine dix (fst+y) F.rd O ?_;refine ρd ?_;refine dld (F.cell O) ?_;refine ρd ?_;refine dix (fst+y) F.rd O ?_;refine ρd ?_;refine Jf ?_;refine sto (F.cell O) s1 ?_ (hv:=F.one U);refine ρ ?_;refine Qh ?_;refine Jf ?_;refine ix (fst+D) s2 U ?_;refine ρ ?_;refine Qh ?_;refine Jf ?_;refine sto s4 s3 ?_ (hv:=F.one O);refine ρ ?_;exact Qv D (swp z0 q (fst+y) (fst+D)) sB ⟨s5,om,J⟩ om
theorem Qgf(hD:Dat w base (.slice A n c) ps)(hn:ps.length=n)(hmx:n<=140737488355328)(hC:CF w (Value.slice A n c).ownBlock fid first cap ps ds)(hai:ai=(a:Int))(hbi:bi=(b:Int))(hab:a<b)(hb:b<=n):
  Ret Tryz.prog 149 [.slice A n c,.int .i64 ai,.int .i64 bi,.func (.func fid) first cap] w λv w'=>∃ ps',DP w w' base A n c ps ps'/\Go.Sort.heapSort (ltP ds) ps.toArray a b=ps'.toArray:=by
 subst hai;subst hbi;refine Jz Tryz.func149 Tryz.ntmps149 rfl kr rfl ?_;refine ρ ?_;refine qn (b-a-1) 2 ?_;refine ρ ?_;refine Qd (fun (i:Nat) (q:List Pr)=>[(0,.slice A n c),(3,.func (.func fid) first cap),(8,.int .i64 (a:Int)),(9,.int .i64 0),(10,.int .i64 ((b:Int)-(a:Int))),(11,.int .i64 ((i:Int)-1))])
  (λi q w'=>DP w w' base A n c ps q/\i<=n/\Go.Sort.heapSort (ltP ds) ps.toArray a b=Go.Sort.heapPop (ltP ds) a (b-a) (Go.Sort.heapBuild (ltP ds) (b-a) a i q.toArray)) (λi _=>i) ((b-a-1) / 2+1) ps sO ⟨DP.start hD hn,om,rfl⟩ ?_
 rintro i q w1 ⟨H,hi,D⟩;refine ρ ?_;refine ci (λh=>?_) (λh=>?_)
 .have y:0<i:=by have:=oT h;omega
  refine ρ ?_;refine cl (Jgd (lo:=i-1) (hi:=b-a) (fst:=a) (loi:=(i:Int)-1) (hii:=(b:Int)-(a:Int)) H.d H.l hmx (hC.step H) om om rfl om om) ?_;rintro v w2 ⟨q2,H2,G⟩;have Z:i=(i-1)+1:=om
  rw[Z,Go.Sort.heapBuild,G]at D;refine ρ ?_;exact Qv (i-1) q2 sO ⟨H.after H2,om,D⟩ om
 have y:i=0:=by have:=oF h;omega
 rw[y,Go.Sort.heapBuild]at D;refine ρ ?_;refine Qd (fun (i:Nat) (q:List Pr)=>[(0,.slice A n c),(3,.func (.func fid) first cap),(8,.int .i64 (a:Int)),(9,.int .i64 0),(12,.int .i64 ((i:Int)-1))])
  (λi q w'=>DP w w' base A n c ps q/\i<=b-a/\Go.Sort.heapSort (ltP ds) ps.toArray a b=Go.Sort.heapPop (ltP ds) a i q.toArray) (λi _=>i) (b-a) q sO ⟨H,om,D⟩ ?_
 clear D;rintro i q w1 ⟨H,hi,D⟩;refine ρ ?_;refine ci (λh=>?_) (λh=>?_)
 .have y:0<i:=by have:=oT h;omega
  have J:a<n:=om
  have O:a+(i-1)<n:=om
  refine ρ ?_;refine drC 4 [0,1,2,3,4,5,6,7,8,9,12,13] [(0,10),(0,11),(0,14),(0,15),(0,16),(2,17),(2,18),(2,19)] kr ?_;have F:=H.drew;obtain⟨s1,s2,s3,⟨u,s4⟩,U,s6⟩:=F.swap J O;refine ρp ?_;refine dix (a+(i-1)) F.rd O ?_;refine ρd ?_;refine dld (F.cell O) ?_;refine ρd ?_;refine dix (a) F.rd J ?_;refine ρd ?_;refine dld (F.cell J) ?_;refine ρd ?_;refine dix (a) F.rd J ?_;refine ρd ?_;refine Jf ?_;refine sto (F.cell J) s1 ?_ (hv:=F.one O);refine ρ ?_;refine Qh ?_;refine Jf ?_;refine ix (a+(i-1)) s2 O ?_;refine ρ ?_;refine Qh ?_;refine Jf ?_;refine sto s4 s3 ?_ (hv:=F.one J);refine ρ ?_;refine cl (Jgd (lo:=0) (hi:=i-1) (fst:=a) (loi:=0) (hii:=(i:Int)-1) U.d U.l hmx (hC.step U) rfl om rfl om om) ?_;rintro v w2 ⟨q2,H2,G⟩;have Z:i=(i-1)+1:=om
  rw[Z,Go.Sort.heapPop,swz,G]at D;refine ρ ?_;exact Qv (i-1) q2 sO ⟨U.after H2,om,D⟩ om
 have y:i=0:=by have:=oF h;omega
 rw[y,Go.Sort.heapPop]at D;refine ρ ?_;exact Ve ⟨q,H,D⟩
open Go.RowKit Pl Go.Wk
variable {cap first:Array Value}{fid:FuncId}{ai bi s:Int}{ds:List Bool}{ps q:List Pr}{a b base c e g n:Nat}{A:Option Addr}{w w0:World}
theorem zInt: Qu Tryz.prog 3=some (.int .i64 0):=kr
theorem zXor: Qu Tryz.prog 248=some (.int .u64 0):=kr
theorem Jyq(H:DP w0 w base A n c ps q)(hmx:n<=140737488355328)(hC:CF w0 (Value.slice A n c).ownBlock fid first cap ps ds)(hB:Blk w g 3 [.int .i64 s])(hg:w0.heap.size<=g)(ha:a<n)(hb:b<n):
  Ret Tryz.prog 183 [.slice A n c,.int .i64 (a:Int),.int .i64 (b:Int),.pointer (some ⟨g,0,none⟩),.func (.func fid) first cap] w λr w'=>∃ x y:Nat,∃ s':Int,r=.tuple #[.int .i64 (x:Int),.int .i64 (y:Int)]/\((x=a/\y=b)∨(x=b/\y=a))/\DP w0 w' base A n c ps q/\Blk w' g 3 [.int .i64 s']:=by
 refine Jz Tryz.func183 Tryz.ntmps183 rfl kr rfl ?_;refine ρ ?_;refine dr [(0,0),(0,1),(0,2),(0,3),(0,4),(0,5),(0,6),(0,7),(0,8),(1,9),(0,10)] kr ?_;have F:=H.drew;refine ρd ?_;refine ρd ?_;refine dix (b) F.rd hb ?_;refine ρd ?_;refine dld (F.cell hb) ?_;refine ρd ?_;refine dix (a) F.rd ha ?_;refine ρd ?_;refine dld (F.cell ha) ?_;refine ρd ?_;refine Zc (hC.call F hb ha) ?_;rintro r J ⟨O,rfl,D⟩;refine⟨D,?_⟩;have G:=F.ext D;refine ρd ?_;refine ρ ?_;have u:=(hB.ext (Ext.refl w).drew).ext D;refine ci (λh=>?_) (λh=>?_)
 .refine ρ ?_;refine ld (u.cell 0) ?_;refine ρ ?_;refine sto (u.cell 0) (u.frozen 0) ?_;refine ρ ?_;exact Xx ⟨b,a,_,rfl,.inr ⟨rfl,rfl⟩,G.box u rfl hg _,u.set 0 _⟩
 refine ρ ?_;exact Xx ⟨a,b,_,rfl,.inl ⟨rfl,rfl⟩,G,u⟩
theorem Jmk(H:DP w0 w base A n c ps q)(hmx:n<=140737488355328)(hC:CF w0 (Value.slice A n c).ownBlock fid first cap ps ds)(hB:Blk w g 3 [.int .i64 s])(hg:w0.heap.size<=g)(ha:a<n)(hb:b<n)(he:e<n):
  Ret Tryz.prog 178 [.slice A n c,.int .i64 (a:Int),.int .i64 (b:Int),.int .i64 (e:Int),.pointer (some ⟨g,0,none⟩),.func (.func fid) first cap] w λr w'=>∃ m:Nat,∃ s':Int,r=.int .i64 (m:Int)/\(m=a∨m=b∨m=e)/\DP w0 w' base A n c ps q/\Blk w' g 3 [.int .i64 s']:=by
 refine Jz Tryz.func178 Tryz.ntmps178 rfl kr rfl ?_;refine ρ ?_;refine cl (Jyq H hmx hC hB hg ha hb) ?_;rintro r w1 ⟨J,b1,s1,rfl,e1,Z,D⟩;refine ρ ?_;refine cl (Jyq (a:=b1) (b:=e) Z hmx hC D hg om he) ?_;rintro r w2 ⟨G,e2,s2,rfl,e3,U,y⟩;refine ρ ?_;refine cl (Jyq (a:=J) (b:=G) U hmx hC y hg om om) ?_;rintro r w3 ⟨a3,F,s3,rfl,e4,O,u⟩;refine ρ ?_;exact Jq ⟨F,_,rfl,om,O,u⟩
theorem Jyv(H:DP w0 w base A n c ps q)(hmx:n<=140737488355328)(hC:CF w0 (Value.slice A n c).ownBlock fid first cap ps ds)(hB:Blk w g 3 [.int .i64 s])(hg:w0.heap.size<=g)(hai:ai=(a:Int))(ha:0<a)(hb:a+1<n):
  Ret Tryz.prog 177 [.slice A n c,.int .i64 ai,.pointer (some ⟨g,0,none⟩),.func (.func fid) first cap] w λr w'=>∃ m:Nat,∃ s':Int,r=.int .i64 (m:Int)/\(m=a∨m+1=a∨m=a+1)/\DP w0 w' base A n c ps q/\Blk w' g 3 [.int .i64 s']:=by
 subst hai;refine Jz Tryz.func177 Tryz.ntmps177 rfl kr rfl ?_;refine ρ ?_;have D:a-1<n:=om
 have y:((a:Int)-1)=((a-1:Nat):Int):=om
 have F:((a:Int)+1)=((a+1:Nat):Int):=om
 rw[y,F];refine cl (Jmk H hmx hC hB hg D (by omega:a<n) hb) ?_;rintro r w1 ⟨m,J,rfl,y,G,u⟩;refine ρ ?_;exact Jq ⟨m,_,rfl,om,G,u⟩
theorem Qmn(hD:Dat w base (.slice A n c) ps)(hn:ps.length=n)(hmx:n<=140737488355328)(hC:CF w (Value.slice A n c).ownBlock fid first cap ps ds)(hai:ai=(a:Int))(hbi:bi=(b:Int))(hab:a+12<b)(hb:b<=n):
  Ret Tryz.prog 151 [.slice A n c,.int .i64 ai,.int .i64 bi,.func (.func fid) first cap] w λr w'=>∃ m:Nat,∃ z:Int,r=.tuple #[.int .i64 (m:Int),.int .i64 z]/\a<=m/\m<b/\DP w w' base A n c ps ps:=by
 subst hai;subst hbi;refine Jz Tryz.func151 Tryz.ntmps151 rfl kr rfl ?_;refine ρ ?_;refine alc zInt ?_;intro w1 g y u Z;have H1:=(DP.start hD hn).ext y;refine ρ ?_;refine qn (b-a) 4 ?_;refine ρ ?_;refine qn (b-a) 4 ?_;refine ρ ?_;refine qn (b-a) 4 ?_;refine ρ ?_;refine ct ?_ ?_
 .grind
 have hq:(b-a) / 4<=(b-a)/\3<=(b-a) / 4/\4*((b-a) / 4)<=b-a:=om
 generalize (b-a) / 4=l4 at hq ⊢
 refine ρ ?_;refine Jdt (fun (i j k:Nat)=>[(0,.slice A n c),(3,.func (.func fid) first cap),(11,.pointer (some ⟨g,0,none⟩)),(12,.int .i64 (i:Int)),(13,.int .i64 (j:Int)),(14,.int .i64 (k:Int))])
  (λi j k w'=>DP w w' base A n c ps ps/\(∃ s:Int,Blk w' g 3 [.int .i64 s])/\a<=i/\i<b/\a<=j/\j<b/\a<=k/\k<b) ?_ ?_
 .refine ci (λh=>?_) (λh=>?_)
  .have a1:=oT h;refine ρ ?_;refine cl (Jyv (a:=a+l4) (ai:=(a:Int)+(l4:Int)*1) H1 hmx hC Z u om om om) ?_;rintro r w2 ⟨i,s2,rfl,e2,H2,O⟩;refine ρ ?_;refine cl (Jyv (a:=a+l4*2) (ai:=(a:Int)+(l4:Int)*2) H2 hmx hC O u om om om) ?_;rintro r w3 ⟨j,s3,rfl,e3,H3,J⟩;refine ρ ?_;refine cl (Jyv (a:=a+l4*3) (ai:=(a:Int)+(l4:Int)*3) H3 hmx hC J u om om om) ?_;rintro r w4 ⟨k,s4,rfl,e4,H4,G⟩;refine ρ ?_;exact Jzg i j k sB ⟨H4,⟨_,G⟩,om,om,om,om,om,om⟩
  refine ρ ?_;exact Jzg (a+l4) (a+l4*2) (a+l4*3) sO ⟨H1,⟨_,Z⟩,om,om,om,om,om,om⟩
 rintro i j k w5 ⟨H5,⟨s5,F⟩,h1,h2,h3,h4,h5,h6⟩;refine ρ ?_;refine cl (Jmk H5 hmx hC F u (by omega:i<n) (by omega:j<n) (by omega:k<n)) ?_;rintro r w6 ⟨m,s6,rfl,e6,U,D⟩;refine ρ ?_;refine ld (D.cell 0) ?_;refine ρ ?_;refine ci (λh=>?_) (λh=>?_)
 .refine ρ ?_;exact Xx ⟨m,_,rfl,om,om,U⟩
 refine ρ ?_;refine ci (λh=>?_) (λh=>?_)
 .refine ρ ?_;exact Xx ⟨m,_,rfl,om,om,U⟩
 refine ρ ?_;exact Xx ⟨m,_,rfl,om,om,U⟩
open Go.RowKit Pl Go.Wk
variable {ai bi mi r:Int}{ps q:List Pr}{a b base c g m n:Nat}{A:Option Addr}{w w0:World}
theorem Jsz(op:BinOp)(x y:Int): 0<=bits op .u64 x y/\bits op .u64 x y<=18446744073709551615:=by
 unfold bits;rw[IntKind.wrap_u64];omega
theorem Qjf(H:DP w0 w base A n c ps q)(hB:Blk w g 248 [.int .u64 r])(hg:w0.heap.size<=g):
  Ret Tryz.prog 176 [.pointer (some ⟨g,0,none⟩)] w λv w'=>∃ r',v=.int .u64 r'/\0<=r'/\r'<=18446744073709551615/\DP w0 w' base A n c ps q/\Blk w' g 248 [.int .u64 r']:=by
 refine Jz Tryz.func176 Tryz.ntmps176 rfl kr rfl ?_;refine ρ ?_;refine dr [(0,0),(0,1),(0,2),(0,3),(0,4),(0,5),(0,6),(0,7),(0,8),(2,9)] kr ?_;have b0:=hB.ext (Ext.refl _).drew;have h0:=H.drew;refine ρd ?_;refine dld (b0.cell 0) ?_;refine ρd ?_;refine dld (b0.cell 0) ?_;refine ρd ?_;refine dshl ?_;refine ρd ?_;obtain⟨G,Z⟩:∃ z,z=bits .xor .u64 r (IntKind.u64.wrap (r*2^min (13:Int).toNat IntKind.u64.bits)):=⟨_,rfl⟩;refine dkv 10 (u:=.int .u64 G) (congrArg (Value.int .u64) Z.symm) ?_;refine Jf ?_;refine sto (b0.cell 0) (b0.frozen 0) ?_;refine ρ ?_;have H1:=h0.box b0 rfl hg (.int .u64 G);have a2:=b0.set 0 (.int .u64 G);refine dr [(0,0),(0,1),(0,2),(0,3),(0,4),(0,5),(0,6),(0,7),(0,8),(2,9)] kr ?_;have b1:=a2.ext (Ext.refl _).drew;have h1:=H1.drew;refine ρd ?_;refine dld (b1.cell 0) ?_;refine ρd ?_;refine dld (b1.cell 0) ?_;refine ρd ?_;refine dshr ?_
 refine ρd ?_;obtain⟨F,U⟩:∃ z,z=bits .xor .u64 G (G.fdiv (2^min (7:Int).toNat IntKind.u64.bits)):=⟨_,rfl⟩;refine dkv 19 (u:=.int .u64 F) (congrArg (Value.int .u64) U.symm) ?_;refine Jf ?_;refine sto (b1.cell 0) (b1.frozen 0) ?_;refine ρ ?_;have H2:=h1.box b1 rfl hg (.int .u64 F);have a1:=b1.set 0 (.int .u64 F);refine dr [(0,0),(0,1),(0,2),(0,3),(0,4),(0,5),(0,6),(0,7),(0,8),(2,9)] kr ?_;have D:=a1.ext (Ext.refl _).drew;have h2:=H2.drew;refine ρd ?_;refine dld (D.cell 0) ?_;refine ρd ?_;refine dld (D.cell 0) ?_;refine ρd ?_;refine dshl ?_;refine ρd ?_;obtain⟨O,y⟩:∃ z,z=bits .xor .u64 F (IntKind.u64.wrap (F*2^min (17:Int).toNat IntKind.u64.bits)):=⟨_,rfl⟩;refine dkv 28 (u:=.int .u64 O) (congrArg (Value.int .u64) y.symm) ?_;refine Jf ?_;refine sto (D.cell 0) (D.frozen 0) ?_;refine ρ ?_;have H3:=h2.box D rfl hg (.int .u64 O);have J:=D.set 0 (.int .u64 O);refine ld (J.cell 0) ?_
 refine ρ ?_;exact Jq ⟨O,rfl,by rw[y];exact(Jsz _ _ _).1,by rw[y];exact(Jsz _ _ _).2,H3,J⟩
theorem Qcc(hmi:mi=(m:Int))(h0:0<m)(hm:m<=140737488355328)(w:World): Ret Tryz.prog 175 [.int .i64 mi] w λv w'=>∃ p:Nat,v=.int .u64 (p:Int)/\0<p/\p<=2*m/\w'=w:=by
 subst hmi;refine Jz Tryz.func175 Tryz.ntmps175 rfl kr rfl ?_;refine ρ ?_;refine kv 4 (u:=.int .u64 (m:Int)) (congrArg (Value.int .u64) (Yh om)) ?_;refine cl (Jcx m om w) ?_;rintro v w' ⟨rfl,rfl⟩;refine ρ ?_;refine wshl rfl rfl om rfl ?_;obtain⟨J,G⟩:=Gq (x:=m) om;have F:Jv m<=48:=Yb om;have D:2^Jv m=2*2^(Jv m-1):=by rw[<-Nat.pow_succ'];congr 1;omega
 have e:IntKind.u64.wrap (1*2^min ((Jv m:Nat):Int).toNat IntKind.u64.bits)=((2^Jv m:Nat):Int):=by
  have y:min ((Jv m:Nat):Int).toNat IntKind.u64.bits=Jv m:=by simp only[Int.toNat_natCast];exact Nat.min_eq_left (by show Jv m<=64;omega)
  rw[y,Int.one_mul];grind [Jv,Yh]
 refine kv 6 (congrArg (Value.int .u64) e) ?_;refine ρ ?_;exact Jq ⟨2^Jv m,rfl,Nat.pow_pos om,om,rfl⟩
theorem Qmt{fid:FuncId}{first cap:Array Value}{ds:List Bool}(hD:Dat w base (.slice A n c) ps)(hn:ps.length=n)(hmx:n<=140737488355328)(hC:CF w (Value.slice A n c).ownBlock fid first cap ps ds)(hai:ai=(a:Int))(hbi:bi=(b:Int))(hab:a+12<b)(hb:b<=n):
  Ret Tryz.prog 150 [.slice A n c,.int .i64 ai,.int .i64 bi,.func (.func fid) first cap] w λv w'=>∃ ps',DP w w' base A n c ps ps'/\Seg z0 a b ps ps':=by
 subst hai;subst hbi;refine Jz Tryz.func150 Tryz.ntmps150 rfl kr rfl ?_;refine ρ ?_;refine ct ?_ ?_
 .grind
 refine ρ ?_;refine alc zXor ?_;intro w1 g a1 hg U;have H1:=(DP.start hD hn).ext a1;refine ρ ?_;refine sto (U.cell 0) (U.frozen 0) ?_;have H2:=H1.box U rfl hg (.int .u64 (IntKind.u64.wrap ((b:Int)-(a:Int))));have a7:=U.set 0 (.int .u64 (IntKind.u64.wrap ((b:Int)-(a:Int))));refine ρ ?_;refine cl (Qcc (m:=b-a) (mi:=(b:Int)-(a:Int)) om om om _) ?_;rintro v w' ⟨D,rfl,ad,ac,rfl⟩;refine ρ ?_;refine qn (b-a) 4 ?_;refine ρ ?_;have hq:(b-a) / 4<=(b-a)/\3<=(b-a) / 4/\4*((b-a) / 4)<=b-a:=om
 refine Qd (fun (idx:Nat) (q:List Pr)=>[(0,.slice A n c),(1,.int .i64 (a:Int)),(8,.int .i64 ((b:Int)-(a:Int))),(9,.pointer (some ⟨g,0,none⟩)),(10,.int .u64 (D:Int)),(11,.int .i64 (idx:Int))])
  (λidx q w'=>DP w w' base A n c ps q/\(∃ r:Int,Blk w' g 248 [.int .u64 r])/\a<=idx/\idx<=n/\Seg z0 a b ps q) (λidx _=>n-idx) (a+((b-a) / 4)*2-1) ps sO ⟨H2,⟨_,a7⟩,om,om,Seg.refl _ _ _⟩ ?_
 rintro idx q w3 ⟨H3,⟨r3,a6⟩,af,hi,J⟩;refine ρ ?_;refine qn (b-a) 4 ?_;refine ρ ?_;refine ci (λh=>?_) (λh=>?_)
 .have a9:idx<=a+((b-a) / 4)*2+1:=by have:=oT h;omega
  refine ρ ?_;refine cl (Qjf H3 a6 hg) ?_;rintro v w4 ⟨Z,rfl,a2,aa,H4,O⟩;refine ρ ?_;have ho:∃ o:Nat,bits .and .u64 Z (IntKind.u64.wrap ((D:Int)-1))=(o:Int)/\o<2*(b-a):=by
   obtain⟨r,rfl⟩:=Int.eq_ofNat_of_zero_le a2;have e:IntKind.u64.wrap ((D:Int)-1)=((D-1:Nat):Int):=by rw[Yh om];omega
   rw[e];refine⟨r &&& (D-1),bits_and_u64_nat r (D-1) om om,?_⟩;grind [Nat.and_le_right]
  obtain⟨o,a3,ae⟩:=ho;refine Xg (fun (o:Nat)=>[(0,.slice A n c),(1,.int .i64 (a:Int)),(8,.int .i64 ((b:Int)-(a:Int))),(9,.pointer (some ⟨g,0,none⟩)),(10,.int .u64 (D:Int)),(11,.int .i64 (idx:Int)),(12,.int .i64 (o:Int))]) (λo w'=>DP w w' base A n c ps q/\Blk w' g 248 [.int .u64 Z]/\o<b-a) ?_ ?_
  .have a8:IntKind.i64.wrap (bits .and .u64 Z (IntKind.u64.wrap ((D:Int)-1)))=(o:Int):=by rw[a3];exact Vf om
   rw[a8];refine ci (λh=>?_) (λh=>?_)
   .have h1:=oT h;refine ρ ?_;exact Js (o-(b-a)) sO ⟨H4,O,om⟩
   have h1:=oF h;refine ρ ?_;exact Js o sB ⟨H4,O,om⟩
  rintro o w5 ⟨H5,a5,ho⟩;have F:idx<n:=om
  have G:a+o<n:=om
  refine ρ ?_;refine drC 4 [0,1,2,3,4,5,6,7,8,9,12,13] [(0,10),(0,11),(0,14),(0,15),(0,16),(2,17),(2,18),(2,19)] kr ?_;have y:=H5.drew;obtain⟨s1,s2,s3,⟨u,s4⟩,s5,s6⟩:=y.swap F G;refine ρp ?_;refine dix (a+o) y.rd G ?_;refine ρd ?_;refine dld (y.cell G) ?_;refine ρd ?_;refine dix (idx) y.rd F ?_;refine ρd ?_;refine dld (y.cell F) ?_;refine ρd ?_;refine dix (idx) y.rd F ?_;refine ρd ?_;refine Jf ?_;refine sto (y.cell F) s1 ?_ (hv:=y.one G);refine ρ ?_;refine Qh ?_;refine Jf ?_;refine ix (a+o) s2 G ?_;refine ρ ?_;refine Qh ?_;refine Jf ?_;refine sto s4 s3 ?_ (hv:=y.one F);refine ρ ?_;have b5:=a5.ext (Ext.refl _).drew;have a4:=b5.grown s6 (b5.ne_own y.d.1 rfl);exact Qv (idx+1) (swp z0 q idx (a+o)) sO ⟨s5,⟨_,a4⟩,om,om,J.trans (Seg.swp om om om om (by rw[H5.l];exact hb))⟩ om
 refine ρ ?_;exact Ve ⟨q,H3,J⟩
open Go.RowKit Pl Go.Wk
variable {cap first:Array Value}{fid:FuncId}{ai bi pvi:Int}{ds:List Bool}{ps:List Pr}{a b base c i0 j0 m n:Nat}{A:Option Addr}{w:World}
section
variable {ds:List Bool} {q:List Pr} {P:Pr->Bool} {i j:Nat}
theorem suT(h:(decide (i<=j) && P (q.getD i z0))=true): Go.Sort.scanUp P q.toArray j i=Go.Sort.scanUp P q.toArray j (i+1):=by
 rw[Go.Sort.scanUp,az,if_pos h]
theorem suF(h:(decide (i<=j) && P (q.getD i z0))=false): Go.Sort.scanUp P q.toArray j i=i:=by
 rw[Go.Sort.scanUp,az,if_neg (by rw[h];decide)]
theorem sdT(hi:1<=i)(h:(decide (i<=j) && P (q.getD j z0))=true): Go.Sort.scanDown P q.toArray i j=Go.Sort.scanDown P q.toArray i (j-1):=by
 cases j with
 | zero=>simp at h;omega
 | succ j=>rw[Go.Sort.scanDown,az,if_pos h];rfl
theorem sdF(h:(decide (i<=j) && P (q.getD j z0))=false): Go.Sort.scanDown P q.toArray i j=j:=by
 cases j with
 | zero=>rfl
 | succ j=>rw[Go.Sort.scanDown,az,if_neg (by rw[h];decide)]
theorem Qys(hU:Go.Sort.scanUp (λx=>!ltP ds (q.getD a z0) x) q.toArray j0 i0=i)(hN:Go.Sort.scanDown (λx=>ltP ds (q.getD a z0) x) q.toArray i j0=j)(h1:i0<=i)(h2:j<=j0):
  Go.Sort.partEqLoop (ltP ds) a i0 j0 q.toArray=if i > j then(i,q.toArray) else Go.Sort.partEqLoop (ltP ds) a (i+1) (j-1) (swp z0 q i j).toArray:=by
 rw[Go.Sort.partEqLoop];grind [az,swz]
theorem partZ(hU:Go.Sort.scanUp (λx=>ltP ds x (q.getD a z0)) q.toArray j0 i0=i)(hN:Go.Sort.scanDown (λx=>!ltP ds x (q.getD a z0)) q.toArray i j0=j)(h1:i0<=i)(h2:j<=j0):
  Go.Sort.partLoop (ltP ds) a i0 j0 q.toArray=if i > j then(j,q.toArray) else Go.Sort.partLoop (ltP ds) a (i+1) (j-1) (swp z0 q i j).toArray:=by
 rw[Go.Sort.partLoop];grind [az,swz]
theorem Qyq{pv:Nat}(hq:swp z0 ps a pv=q)(hU:Go.Sort.scanUp (λx=>ltP ds x (q.getD a z0)) q.toArray (b-1) (a+1)=i)(hN:Go.Sort.scanDown (λx=>!ltP ds x (q.getD a z0)) q.toArray i (b-1)=j):
  Go.Sort.partition (ltP ds) ps.toArray a b pv=if i > j then(j,true,(swp z0 q j a).toArray) else((Go.Sort.partLoop (ltP ds) a (i+1) (j-1) (swp z0 q i j).toArray).1,false,Go.Sort.swp (Go.Sort.partLoop (ltP ds) a (i+1) (j-1) (swp z0 q i j).toArray).2 (Go.Sort.partLoop (ltP ds) a (i+1) (j-1) (swp z0 q i j).toArray).1 a):=by
 unfold Go.Sort.partition;grind [swz,az]
theorem ssT(h:(decide (i<b) && !ltP ds (q.getD i z0) (q.getD (i-1) z0))=true): Go.Sort.scanSorted (ltP ds) q.toArray b i=Go.Sort.scanSorted (ltP ds) q.toArray b (i+1):=by
 rw[Go.Sort.scanSorted,az,az,if_pos h]
theorem ssF(h:(decide (i<b) && !ltP ds (q.getD i z0) (q.getD (i-1) z0))=false): Go.Sort.scanSorted (ltP ds) q.toArray b i=i:=by
 rw[Go.Sort.scanSorted,az,az,if_neg (by rw[h];decide)]
theorem Qym{s:Nat}(hS:Go.Sort.scanSorted (ltP ds) q.toArray b i0=i):
  Go.Sort.partialIns (ltP ds) a b (s+1) i0 q.toArray=if i=b then(q.toArray,true) else if b-a<50 then(q.toArray,false) else
   Go.Sort.partialIns (ltP ds) a b s i (if b-i ≥ 2 then Go.Sort.shiftUp (ltP ds) b (i+1) (if i-a ≥ 2 then Go.Sort.shiftDown (ltP ds) (i-1) (swp z0 q i (i-1)).toArray else(swp z0 q i (i-1)).toArray) else(if i-a ≥ 2 then Go.Sort.shiftDown (ltP ds) (i-1) (swp z0 q i (i-1)).toArray else(swp z0 q i (i-1)).toArray)):=by
 rw[Go.Sort.partialIns];simp only[hS,swz]
theorem shd(h:1<=m): Go.Sort.shiftDown (ltP ds) m q.toArray=if(!ltP ds (q.getD m z0) (q.getD (m-1) z0))=true then q.toArray else Go.Sort.shiftDown (ltP ds) (m-1) (swp z0 q m (m-1)).toArray:=by
 cases m with
 | zero=>omega
 | succ m=>rw[Go.Sort.shiftDown,az,az,swz];rfl
theorem shu0{d:Array Pr}(h:¬ m<b): Go.Sort.shiftUp (ltP ds) b m d=d:=by rw[Go.Sort.shiftUp,if_neg h]
theorem shu(h:m<b): Go.Sort.shiftUp (ltP ds) b m q.toArray=if(!ltP ds (q.getD m z0) (q.getD (m-1) z0))=true then q.toArray else Go.Sort.shiftUp (ltP ds) b (m+1) (swp z0 q m (m-1)).toArray:=by
 rw[Go.Sort.shiftUp,if_pos h,az,az,swz]
end
theorem Qyr(hD:Dat w base (.slice A n c) ps)(hn:ps.length=n)(hmx:n<=140737488355328)(hC:CF w (Value.slice A n c).ownBlock fid first cap ps ds){pv:Nat}(hai:ai=(a:Int))(hbi:bi=(b:Int))(hpvi:pvi=(pv:Int))(hab:a<b)(hb:b<=n)(hp0:a<=pv)(hp1:pv<b):
  Ret Tryz.prog 154 [.slice A n c,.int .i64 ai,.int .i64 bi,.int .i64 pvi,.func (.func fid) first cap] w λv w'=>∃ ps',DP w w' base A n c ps ps'/\∃ m:Nat,v=.int .i64 (m:Int)/\a<m/\m<=b/\Go.Sort.partitionEqual (ltP ds) ps.toArray a b pv=(m,ps'.toArray):=by
 subst hai;subst hbi;subst hpvi;refine Jz Tryz.func154 Tryz.ntmps154 rfl kr rfl ?_;refine ρ ?_;have H:=DP.start hD hn;have la:a<n:=om
 have lp:pv<n:=om
 refine drC 4 [0,1,2,3,4,5,8,9] [(0,6),(0,7),(0,10),(0,11),(0,12),(2,13),(2,14),(2,15)] kr ?_;have U:=H.drew;obtain⟨s1,s2,s3,⟨u,s4⟩,s5,s6⟩:=U.swap la lp;refine ρp ?_;refine dix (pv) U.rd lp ?_;refine ρd ?_;refine dld (U.cell lp) ?_;refine ρd ?_;refine dix (a) U.rd la ?_;refine ρd ?_;refine dld (U.cell la) ?_;refine ρd ?_;refine dix (a) U.rd la ?_;refine ρd ?_;refine Jf ?_;refine sto (U.cell la) s1 ?_ (hv:=U.one lp);refine ρ ?_;refine Qh ?_;refine Jf ?_;refine ix (pv) s2 lp ?_;refine ρ ?_;refine Qh ?_;refine Jf ?_;refine sto s4 s3 ?_ (hv:=U.one la);refine ρ ?_;refine Zk (fun (i j:Nat) (q:List Pr)=>[(0,.slice A n c),(1,.int .i64 (a:Int)),(2,.int .i64 (b:Int)),(4,.func (.func fid) first cap),(11,.int .i64 (i:Int)),(12,.int .i64 (j:Int))]) (λi j q w'=>DP w w' base A n c ps q/\Go.Sort.partitionEqual (ltP ds) ps.toArray a b pv=Go.Sort.partEqLoop (ltP ds) a i j q.toArray/\a<i/\i<=b/\a<=j/\j<b) (λi j _=>b+j-i) (a+1) (b-1) _ sO ⟨s5,by unfold Go.Sort.partitionEqual;rw[swz],om⟩ ?_
 clear s1 s2 s3 s4 s5 s6 u U H;rintro i0 G q w1 ⟨H,hR,a8⟩;refine ρ ?_;refine Jl (fun (i:Nat)=>[(0,.slice A n c),(1,.int .i64 (a:Int)),(2,.int .i64 (b:Int)),(4,.func (.func fid) first cap),(12,.int .i64 (G:Int)),(11,.int .i64 (i:Int))]) (λi w'=>DP w w' base A n c ps q/\i0<=i/\a<i/\i<=b/\Go.Sort.scanUp (λx=>!ltP ds (q.getD a z0) x) q.toArray G i0=Go.Sort.scanUp (λx=>!ltP ds (q.getD a z0) x) q.toArray G i) (λi=>b-i) i0 sO ⟨H,om⟩ ?_;rintro i wS ⟨HS,a7⟩;refine ρ ?_;refine Xg (fun (t:Bool)=>[(0,.slice A n c),(1,.int .i64 (a:Int)),(2,.int .i64 (b:Int)),(4,.func (.func fid) first cap),(12,.int .i64 (G:Int)),(11,.int .i64 (i:Int)),(47,.bool t)]) (λt w'=>DP w w' base A n c ps q/\(t=true->i<=G)/\t=(decide (i<=G) && (λx=>!ltP ds (q.getD a z0) x) (q.getD i z0))) ?_ ?_
 .skip
  refine dr [(0,0),(0,1),(0,2),(0,3),(0,4),(0,5),(0,6),(0,7),(0,8),(0,9),(0,10),(0,11),(0,12),(1,13),(0,14),(0,15),(0,16)] kr ?_;have y:=HS.drew;refine ρd ?_;refine dki 34 (λh=>?_) (λh=>?_)
  .have hT:i<=G:=by have:=oT h;omega
   have lx:a<n:=om
   have Z:i<n:=om
   refine ρd ?_;refine dix (a) y.rd lx ?_;refine ρd ?_;refine dld (y.cell lx) ?_;refine ρd ?_;refine dix (i) y.rd Z ?_;refine ρd ?_;refine dld (y.cell Z) ?_;refine ρd ?_;refine Zc (hC.callV y lx Z) ?_;rintro r a4 ⟨rfl,F⟩;refine⟨F,?_⟩;have HT:=y.ext F;refine ρd ?_;refine ρ ?_;exact Js _ sB ⟨HT,λ_=>hT,by rw[decide_eq_true hT];rfl⟩
  refine ρd ?_;refine ρ ?_;exact Js false sB ⟨y,(λe=>by cases e),by grind⟩
 rintro t a3 ⟨a2,O,J⟩;refine ci (λh=>?_) (λh=>?_)
 .have:=O h;have a5:=suT (P:=(λx=>!ltP ds (q.getD a z0) x)) (J.symm.trans h);refine ρ ?_;exact Jg (i+1) sO ⟨a2,om⟩ om
 have hU:Go.Sort.scanUp (λx=>!ltP ds (q.getD a z0) x) q.toArray G i0=i:=by grind [suF,ltP,z0]
 clear O HS h J;refine ρ ?_;refine Jl (fun (j:Nat)=>[(0,.slice A n c),(1,.int .i64 (a:Int)),(2,.int .i64 (b:Int)),(4,.func (.func fid) first cap),(11,.int .i64 (i:Int)),(12,.int .i64 (j:Int))]) (λj w'=>DP w w' base A n c ps q/\j<=G/\a<=j/\j<b/\Go.Sort.scanDown (λx=>ltP ds (q.getD a z0) x) q.toArray i G=Go.Sort.scanDown (λx=>ltP ds (q.getD a z0) x) q.toArray i j) (λj=>j) G sO ⟨a2,om⟩ ?_;rintro j wS ⟨HS,a6⟩;refine ρ ?_;refine Xg (fun (t:Bool)=>[(0,.slice A n c),(1,.int .i64 (a:Int)),(2,.int .i64 (b:Int)),(4,.func (.func fid) first cap),(11,.int .i64 (i:Int)),(12,.int .i64 (j:Int)),(65,.bool t)]) (λt w'=>DP w w' base A n c ps q/\(t=true->i<=j)/\t=(decide (i<=j) && (λx=>ltP ds (q.getD a z0) x) (q.getD j z0))) ?_ ?_
 .skip
  refine dr [(0,0),(0,1),(0,2),(0,3),(0,4),(0,5),(0,6),(0,7),(0,8),(0,9),(0,10),(0,11),(0,12),(1,13),(0,14),(0,15)] kr ?_;have y:=HS.drew;refine ρd ?_;refine dki 53 (λh=>?_) (λh=>?_)
  .have hT:i<=j:=by have:=oT h;omega
   have lx:a<n:=om
   have Z:j<n:=om
   refine ρd ?_;refine dix (a) y.rd lx ?_;refine ρd ?_;refine dld (y.cell lx) ?_;refine ρd ?_;refine dix (j) y.rd Z ?_;refine ρd ?_;refine dld (y.cell Z) ?_;refine ρd ?_;refine Zc (hC.callV y lx Z) ?_;rintro r a4 ⟨rfl,F⟩;refine⟨F,?_⟩;have HT:=y.ext F;refine ρd ?_;refine ρ ?_;exact Js _ sB ⟨HT,λ_=>hT,by rw[decide_eq_true hT];rfl⟩
  refine ρd ?_;refine ρ ?_;exact Js false sB ⟨y,(λe=>by cases e),by grind⟩
 rintro t a3 ⟨a1,O,J⟩;refine ci (λh=>?_) (λh=>?_)
 .have:=O h;have a5:=sdT (P:=(λx=>ltP ds (q.getD a z0) x)) (show 1<=i by omega) (J.symm.trans h);refine ρ ?_;exact Jg (j-1) sO ⟨a1,om⟩ om
 have hN:Go.Sort.scanDown (λx=>ltP ds (q.getD a z0) x) q.toArray i G=j:=by grind [sdF,ltP,z0]
 clear O HS h J;refine ρ ?_;rw[Qys hU hN a7.1 a6.1]at hR;refine ci (λh=>?_) (λh=>?_)
 .rw[if_pos (show i > j by grind)]at hR;refine ρ ?_;exact Jq ⟨q,a1,i,rfl,om,om,hR⟩
 have hT:i<=j:=by grind
 rw[if_neg (show¬ i > j by omega)]at hR;have li:i<n:=om
 have lj:j<n:=om
 refine ρ ?_;refine drC 4 [0,1,2,3,4,5,8,9] [(0,6),(0,7),(0,10),(0,11),(0,12),(2,13),(2,14),(2,15)] kr ?_;have D:=a1.drew;obtain⟨s1,s2,s3,⟨u,s4⟩,s5,s6⟩:=D.swap li lj;refine ρp ?_;refine dix (j) D.rd lj ?_;refine ρd ?_;refine dld (D.cell lj) ?_;refine ρd ?_;refine dix (i) D.rd li ?_;refine ρd ?_;refine dld (D.cell li) ?_;refine ρd ?_;refine dix (i) D.rd li ?_;refine ρd ?_;refine Jf ?_;refine sto (D.cell li) s1 ?_ (hv:=D.one lj);refine ρ ?_;refine Qh ?_;refine Jf ?_;refine ix (j) s2 lj ?_;refine ρ ?_;refine Qh ?_;refine Jf ?_;refine sto s4 s3 ?_ (hv:=D.one li);refine ρ ?_;exact Qa (i+1) (j-1) _ sO ⟨s5,hR,om⟩ om
theorem Qyp(hD:Dat w base (.slice A n c) ps)(hn:ps.length=n)(hmx:n<=140737488355328)(hC:CF w (Value.slice A n c).ownBlock fid first cap ps ds){pv:Nat}(hai:ai=(a:Int))(hbi:bi=(b:Int))(hpvi:pvi=(pv:Int))(hab:a<b)(hb:b<=n)(hp0:a<=pv)(hp1:pv<b):
  Ret Tryz.prog 155 [.slice A n c,.int .i64 ai,.int .i64 bi,.int .i64 pvi,.func (.func fid) first cap] w λv w'=>∃ ps',DP w w' base A n c ps ps'/\∃(m:Nat) (t:Bool),v=.tuple #[.int .i64 (m:Int),.bool t]/\a<=m/\m<b/\Go.Sort.partition (ltP ds) ps.toArray a b pv=(m,t,ps'.toArray):=by
 subst hai;subst hbi;subst hpvi;refine Jz Tryz.func155 Tryz.ntmps155 rfl kr rfl ?_;refine ρ ?_;have H:=DP.start hD hn;have la:a<n:=om
 have lp:pv<n:=om
 refine drC 4 [0,1,2,3,4,5,8,9] [(0,6),(0,7),(0,10),(0,11),(0,12),(2,13),(2,14),(2,15)] kr ?_;have Hd:=H.drew;obtain⟨s1,s2,s3,⟨u,s4⟩,s5,s6⟩:=Hd.swap la lp;refine ρp ?_;refine dix (pv) Hd.rd lp ?_;refine ρd ?_;refine dld (Hd.cell lp) ?_;refine ρd ?_;refine dix (a) Hd.rd la ?_;refine ρd ?_;refine dld (Hd.cell la) ?_;refine ρd ?_;refine dix (a) Hd.rd la ?_;refine ρd ?_;refine Jf ?_;refine sto (Hd.cell la) s1 ?_ (hv:=Hd.one lp);refine ρ ?_;refine Qh ?_;refine Jf ?_;refine ix (pv) s2 lp ?_;refine ρ ?_;refine Qh ?_;refine Jf ?_;refine sto s4 s3 ?_ (hv:=Hd.one la);refine ρ ?_;generalize hq:swp z0 ps a pv=q at s5
 have H5:=s5;clear s1 s2 s3 s4 s5 s6 u Hd H;obtain⟨i0,a9⟩:∃ i0:Nat,i0=a+1:=⟨_,rfl⟩;obtain⟨G,a6⟩:∃ G:Nat,G=b-1:=⟨_,rfl⟩;refine Jl (fun (i:Nat)=>[(0,.slice A n c),(1,.int .i64 (a:Int)),(2,.int .i64 (b:Int)),(4,.func (.func fid) first cap),(13,.int .i64 (G:Int)),(12,.int .i64 (i:Int))]) (λi w'=>DP w w' base A n c ps q/\i0<=i/\a<i/\i<=b/\Go.Sort.scanUp (λx=>ltP ds x (q.getD a z0)) q.toArray G i0=Go.Sort.scanUp (λx=>ltP ds x (q.getD a z0)) q.toArray G i) (λi=>b-i) i0 sO ⟨H5,om⟩ ?_;rintro i wS ⟨HS,a8⟩;refine ρ ?_;refine Xg (fun (t:Bool)=>[(0,.slice A n c),(1,.int .i64 (a:Int)),(2,.int .i64 (b:Int)),(4,.func (.func fid) first cap),(13,.int .i64 (G:Int)),(12,.int .i64 (i:Int)),(47,.bool t)]) (λt w'=>DP w w' base A n c ps q/\(t=true->i<=G)/\t=(decide (i<=G) && (λx=>ltP ds x (q.getD a z0)) (q.getD i z0))) ?_ ?_
 .skip
  refine dr [(0,0),(0,1),(0,2),(0,3),(0,4),(0,5),(0,6),(0,7),(0,8),(0,9),(0,10),(0,11),(0,12),(1,13),(0,14),(0,15)] kr ?_;have D:=HS.drew;refine ρd ?_;refine dki 35 (λh=>?_) (λh=>?_)
  .have hT:i<=G:=by have:=oT h;omega
   have lx:i<n:=om
   have ly:a<n:=om
   refine ρd ?_;refine dix (i) D.rd lx ?_;refine ρd ?_;refine dld (D.cell lx) ?_;refine ρd ?_;refine dix (a) D.rd ly ?_;refine ρd ?_;refine dld (D.cell ly) ?_;refine ρd ?_;refine Zc (hC.callV D lx ly) ?_;rintro r a4 ⟨rfl,F⟩;refine⟨F,?_⟩;have HT:=D.ext F;refine ρd ?_;refine ρ ?_;exact Js _ sB ⟨HT,λ_=>hT,by rw[decide_eq_true hT];rfl⟩
  refine ρd ?_;refine ρ ?_;exact Js false sB ⟨D,(λe=>by cases e),by grind⟩
 rintro t a3 ⟨a2,Z,U⟩;refine ci (λh=>?_) (λh=>?_)
 .have:=Z h;have a5:=suT (P:=(λx=>ltP ds x (q.getD a z0))) (U.symm.trans h);refine ρ ?_;exact Jg (i+1) sO ⟨a2,om⟩ om
 have hU:Go.Sort.scanUp (λx=>ltP ds x (q.getD a z0)) q.toArray G i0=i:=by grind [suF,ltP,z0]
 clear Z HS h U;refine ρ ?_;refine Jl (fun (j:Nat)=>[(0,.slice A n c),(1,.int .i64 (a:Int)),(2,.int .i64 (b:Int)),(4,.func (.func fid) first cap),(12,.int .i64 (i:Int)),(13,.int .i64 (j:Int))]) (λj w'=>DP w w' base A n c ps q/\j<=G/\a<=j/\j<b/\Go.Sort.scanDown (λx=>!ltP ds x (q.getD a z0)) q.toArray i G=Go.Sort.scanDown (λx=>!ltP ds x (q.getD a z0)) q.toArray i j) (λj=>j) G sO ⟨a2,om⟩ ?_;rintro j wS ⟨HS,a7⟩;refine ρ ?_;refine Xg (fun (t:Bool)=>[(0,.slice A n c),(1,.int .i64 (a:Int)),(2,.int .i64 (b:Int)),(4,.func (.func fid) first cap),(12,.int .i64 (i:Int)),(13,.int .i64 (j:Int)),(66,.bool t)]) (λt w'=>DP w w' base A n c ps q/\(t=true->i<=j)/\t=(decide (i<=j) && (λx=>!ltP ds x (q.getD a z0)) (q.getD j z0))) ?_ ?_
 .skip
  refine dr [(0,0),(0,1),(0,2),(0,3),(0,4),(0,5),(0,6),(0,7),(0,8),(0,9),(0,10),(0,11),(0,12),(1,13),(0,14),(0,15),(0,16)] kr ?_;have D:=HS.drew;refine ρd ?_;refine dki 53 (λh=>?_) (λh=>?_)
  .have hT:i<=j:=by have:=oT h;omega
   have lx:j<n:=om
   have ly:a<n:=om
   refine ρd ?_;refine dix (j) D.rd lx ?_;refine ρd ?_;refine dld (D.cell lx) ?_;refine ρd ?_;refine dix (a) D.rd ly ?_;refine ρd ?_;refine dld (D.cell ly) ?_;refine ρd ?_;refine Zc (hC.callV D lx ly) ?_;rintro r a4 ⟨rfl,F⟩;refine⟨F,?_⟩;have HT:=D.ext F;refine ρd ?_;refine ρ ?_;exact Js _ sB ⟨HT,λ_=>hT,by rw[decide_eq_true hT];rfl⟩
  refine ρd ?_;refine ρ ?_;exact Js false sB ⟨D,(λe=>by cases e),by grind⟩
 rintro t a3 ⟨a1,Z,U⟩;refine ci (λh=>?_) (λh=>?_)
 .have:=Z h;have a5:=sdT (P:=(λx=>!ltP ds x (q.getD a z0))) (show 1<=i by omega) (U.symm.trans h);refine ρ ?_;exact Jg (j-1) sO ⟨a1,om⟩ om
 have hN:Go.Sort.scanDown (λx=>!ltP ds x (q.getD a z0)) q.toArray i G=j:=by grind [sdF,ltP,z0]
 clear Z HS h U;refine ρ ?_;have J:a<n:=om
 have O:j<n:=om
 have hR:=Qyq hq (a6 ▸ a9 ▸ hU) (a6 ▸ hN);refine ci (λh=>?_) (λh=>?_)
 .rw[if_pos (show i > j by grind)]at hR;refine ρ ?_;refine drC 4 [0,1,2,3,4,5,8,9] [(0,6),(0,7),(0,10),(0,11),(0,12),(2,13),(2,14),(2,15)] kr ?_;have y:=a1.drew;obtain⟨s1,s2,s3,⟨u,s4⟩,s5,s6⟩:=y.swap O J;refine ρp ?_;refine dix (a) y.rd J ?_;refine ρd ?_;refine dld (y.cell J) ?_;refine ρd ?_;refine dix (j) y.rd O ?_;refine ρd ?_;refine dld (y.cell O) ?_;refine ρd ?_;refine dix (j) y.rd O ?_;refine ρd ?_;refine Jf ?_;refine sto (y.cell O) s1 ?_ (hv:=y.one J);refine ρ ?_;refine Qh ?_;refine Jf ?_;refine ix (a) s2 J ?_;refine ρ ?_;refine Qh ?_;refine Jf ?_;refine sto s4 s3 ?_ (hv:=y.one O);refine ρ ?_;exact Xx ⟨_,s5,j,true,rfl,om,om,hR⟩
 have hT:i<=j:=by grind
 rw[if_neg (show¬ i > j by omega)]at hR;have li:i<n:=om
 refine ρ ?_;refine drC 4 [0,1,2,3,4,5,8,9] [(0,6),(0,7),(0,10),(0,11),(0,12),(2,13),(2,14),(2,15)] kr ?_;have y:=a1.drew;obtain⟨s1,s2,s3,⟨u,s4⟩,s5,s6⟩:=y.swap li O;refine ρp ?_;refine dix (j) y.rd O ?_;refine ρd ?_;refine dld (y.cell O) ?_;refine ρd ?_;refine dix (i) y.rd li ?_;refine ρd ?_;refine dld (y.cell li) ?_;refine ρd ?_;refine dix (i) y.rd li ?_;refine ρd ?_;refine Jf ?_;refine sto (y.cell li) s1 ?_ (hv:=y.one O);refine ρ ?_;refine Qh ?_;refine Jf ?_;refine ix (j) s2 O ?_;refine ρ ?_;refine Qh ?_;refine Jf ?_;refine sto s4 s3 ?_ (hv:=y.one li);refine ρ ?_;refine Zk (fun (i j:Nat) (q:List Pr)=>[(0,.slice A n c),(1,.int .i64 (a:Int)),(2,.int .i64 (b:Int)),(4,.func (.func fid) first cap),(12,.int .i64 (i:Int)),(13,.int .i64 (j:Int))]) (λi j q w'=>DP w w' base A n c ps q/\Go.Sort.partition (ltP ds) ps.toArray a b pv=((Go.Sort.partLoop (ltP ds) a i j q.toArray).1,false,Go.Sort.swp (Go.Sort.partLoop (ltP ds) a i j q.toArray).2 (Go.Sort.partLoop (ltP ds) a i j q.toArray).1 a)/\a<i/\i<=b/\a<=j/\j<b) (λi j _=>b+j-i) (i+1) (j-1) _ sO ⟨s5,hR,om⟩ ?_
 clear s1 s2 s3 s4 s5 s6 u y a1 a2 a8 a7 J O li hT hR hU hN hq;clear a9 a6;clear h q i0 G i j H5;rintro i0 G q w1 ⟨H,hR,aa⟩;refine ρ ?_;refine Jl (fun (i:Nat)=>[(0,.slice A n c),(1,.int .i64 (a:Int)),(2,.int .i64 (b:Int)),(4,.func (.func fid) first cap),(13,.int .i64 (G:Int)),(12,.int .i64 (i:Int))]) (λi w'=>DP w w' base A n c ps q/\i0<=i/\a<i/\i<=b/\Go.Sort.scanUp (λx=>ltP ds x (q.getD a z0)) q.toArray G i0=Go.Sort.scanUp (λx=>ltP ds x (q.getD a z0)) q.toArray G i) (λi=>b-i) i0 sO ⟨H,om⟩ ?_;rintro i wS ⟨HS,a8⟩;refine ρ ?_;refine Xg (fun (t:Bool)=>[(0,.slice A n c),(1,.int .i64 (a:Int)),(2,.int .i64 (b:Int)),(4,.func (.func fid) first cap),(13,.int .i64 (G:Int)),(12,.int .i64 (i:Int)),(120,.bool t)]) (λt w'=>DP w w' base A n c ps q/\(t=true->i<=G)/\t=(decide (i<=G) && (λx=>ltP ds x (q.getD a z0)) (q.getD i z0))) ?_ ?_
 .skip
  refine dr [(0,0),(0,1),(0,2),(0,3),(0,4),(0,5),(0,6),(0,7),(0,8),(0,9),(0,10),(0,11),(0,12),(1,13),(0,14),(0,15)] kr ?_;have D:=HS.drew;refine ρd ?_;refine dki 108 (λh=>?_) (λh=>?_)
  .have hT:i<=G:=by have:=oT h;omega
   have lx:i<n:=om
   have ly:a<n:=om
   refine ρd ?_;refine dix (i) D.rd lx ?_;refine ρd ?_;refine dld (D.cell lx) ?_;refine ρd ?_;refine dix (a) D.rd ly ?_;refine ρd ?_;refine dld (D.cell ly) ?_;refine ρd ?_;refine Zc (hC.callV D lx ly) ?_;rintro r a4 ⟨rfl,F⟩;refine⟨F,?_⟩;have HT:=D.ext F;refine ρd ?_;refine ρ ?_;exact Js _ sB ⟨HT,λ_=>hT,by rw[decide_eq_true hT];rfl⟩
  refine ρd ?_;refine ρ ?_;exact Js false sB ⟨D,(λe=>by cases e),by grind⟩
 rintro t a3 ⟨a2,Z,U⟩;refine ci (λh=>?_) (λh=>?_)
 .have:=Z h;have a5:=suT (P:=(λx=>ltP ds x (q.getD a z0))) (U.symm.trans h);refine ρ ?_;exact Jg (i+1) sO ⟨a2,om⟩ om
 have hU:Go.Sort.scanUp (λx=>ltP ds x (q.getD a z0)) q.toArray G i0=i:=by grind [suF,ltP,z0]
 clear Z HS h U;refine ρ ?_;refine Jl (fun (j:Nat)=>[(0,.slice A n c),(1,.int .i64 (a:Int)),(2,.int .i64 (b:Int)),(4,.func (.func fid) first cap),(12,.int .i64 (i:Int)),(13,.int .i64 (j:Int))]) (λj w'=>DP w w' base A n c ps q/\j<=G/\a<=j/\j<b/\Go.Sort.scanDown (λx=>!ltP ds x (q.getD a z0)) q.toArray i G=Go.Sort.scanDown (λx=>!ltP ds x (q.getD a z0)) q.toArray i j) (λj=>j) G sO ⟨a2,om⟩ ?_;rintro j wS ⟨HS,a7⟩;refine ρ ?_;refine Xg (fun (t:Bool)=>[(0,.slice A n c),(1,.int .i64 (a:Int)),(2,.int .i64 (b:Int)),(4,.func (.func fid) first cap),(12,.int .i64 (i:Int)),(13,.int .i64 (j:Int)),(139,.bool t)]) (λt w'=>DP w w' base A n c ps q/\(t=true->i<=j)/\t=(decide (i<=j) && (λx=>!ltP ds x (q.getD a z0)) (q.getD j z0))) ?_ ?_
 .skip
  refine dr [(0,0),(0,1),(0,2),(0,3),(0,4),(0,5),(0,6),(0,7),(0,8),(0,9),(0,10),(0,11),(0,12),(1,13),(0,14),(0,15),(0,16)] kr ?_;have D:=HS.drew;refine ρd ?_;refine dki 126 (λh=>?_) (λh=>?_)
  .have hT:i<=j:=by have:=oT h;omega
   have lx:j<n:=om
   have ly:a<n:=om
   refine ρd ?_;refine dix (j) D.rd lx ?_;refine ρd ?_;refine dld (D.cell lx) ?_;refine ρd ?_;refine dix (a) D.rd ly ?_;refine ρd ?_;refine dld (D.cell ly) ?_;refine ρd ?_;refine Zc (hC.callV D lx ly) ?_;rintro r a4 ⟨rfl,F⟩;refine⟨F,?_⟩;have HT:=D.ext F;refine ρd ?_;refine ρ ?_;exact Js _ sB ⟨HT,λ_=>hT,by rw[decide_eq_true hT];rfl⟩
  refine ρd ?_;refine ρ ?_;exact Js false sB ⟨D,(λe=>by cases e),by grind⟩
 rintro t a3 ⟨a1,Z,U⟩;refine ci (λh=>?_) (λh=>?_)
 .have:=Z h;have a5:=sdT (P:=(λx=>!ltP ds x (q.getD a z0))) (show 1<=i by omega) (U.symm.trans h);refine ρ ?_;exact Jg (j-1) sO ⟨a1,om⟩ om
 have hN:Go.Sort.scanDown (λx=>!ltP ds x (q.getD a z0)) q.toArray i G=j:=by grind [sdF,ltP,z0]
 clear Z HS h U;refine ρ ?_;have J:a<n:=om
 have O:j<n:=om
 rw[partZ hU hN a8.1 a7.1]at hR;refine ci (λh=>?_) (λh=>?_)
 .rw[if_pos (show i > j by grind)]at hR;simp only[swz]at hR;refine ρ ?_;refine drC 4 [0,1,2,3,4,5,8,9] [(0,6),(0,7),(0,10),(0,11),(0,12),(2,13),(2,14),(2,15)] kr ?_;have y:=a1.drew;obtain⟨s1,s2,s3,⟨u,s4⟩,s5,s6⟩:=y.swap O J;refine ρp ?_;refine dix (a) y.rd J ?_;refine ρd ?_;refine dld (y.cell J) ?_;refine ρd ?_;refine dix (j) y.rd O ?_;refine ρd ?_;refine dld (y.cell O) ?_;refine ρd ?_;refine dix (j) y.rd O ?_;refine ρd ?_;refine Jf ?_;refine sto (y.cell O) s1 ?_ (hv:=y.one J);refine ρ ?_;refine Qh ?_;refine Jf ?_;refine ix (a) s2 J ?_;refine ρ ?_;refine Qh ?_;refine Jf ?_;refine sto s4 s3 ?_ (hv:=y.one O);refine ρ ?_;exact Xx ⟨_,s5,j,false,rfl,om,om,hR⟩
 have hT:i<=j:=by grind
 rw[if_neg (show¬ i > j by omega)]at hR;have li:i<n:=om
 refine ρ ?_;refine drC 4 [0,1,2,3,4,5,8,9] [(0,6),(0,7),(0,10),(0,11),(0,12),(2,13),(2,14),(2,15)] kr ?_;have y:=a1.drew;obtain⟨s1,s2,s3,⟨u,s4⟩,s5,s6⟩:=y.swap li O;refine ρp ?_;refine dix (j) y.rd O ?_;refine ρd ?_;refine dld (y.cell O) ?_;refine ρd ?_;refine dix (i) y.rd li ?_;refine ρd ?_;refine dld (y.cell li) ?_;refine ρd ?_;refine dix (i) y.rd li ?_;refine ρd ?_;refine Jf ?_;refine sto (y.cell li) s1 ?_ (hv:=y.one O);refine ρ ?_;refine Qh ?_;refine Jf ?_;refine ix (j) s2 O ?_;refine ρ ?_;refine Qh ?_;refine Jf ?_;refine sto s4 s3 ?_ (hv:=y.one li);refine ρ ?_;exact Qa (i+1) (j-1) _ sO ⟨s5,hR,om⟩ om
theorem Qyl(hD:Dat w base (.slice A n c) ps)(hn:ps.length=n)(hmx:n<=140737488355328)(hC:CF w (Value.slice A n c).ownBlock fid first cap ps ds)(hai:ai=(a:Int))(hbi:bi=(b:Int))(hab:a+1<b)(hb:b<=n):
  Ret Tryz.prog 153 [.slice A n c,.int .i64 ai,.int .i64 bi,.func (.func fid) first cap] w λv w'=>∃ ps',DP w w' base A n c ps ps'/\∃ t:Bool,v=.bool t/\Go.Sort.partialInsertionSort (ltP ds) ps.toArray a b=(ps'.toArray,t):=by
 subst hai;subst hbi;refine Jz Tryz.func153 Tryz.ntmps153 rfl kr rfl ?_;refine ρ ?_;refine Zk (fun (k i:Nat) (q:List Pr)=>[(0,.slice A n c),(1,.int .i64 (a:Int)),(2,.int .i64 (b:Int)),(3,.func (.func fid) first cap),(9,.int .i64 (i:Int)),(10,.int .i64 (k:Int))]) (λk i q w'=>DP w w' base A n c ps q/\Go.Sort.partialInsertionSort (ltP ds) ps.toArray a b=Go.Sort.partialIns (ltP ds) a b (5-k) i q.toArray/\a<i/\i<=b/\k<=5) (λk _ _=>5-k) 0 (a+1) ps sO ⟨DP.start hD hn,rfl,om⟩ ?_;rintro k i0 q w1 ⟨H,G,a9⟩;refine ρ ?_;refine ci (λh=>?_) (λh=>?_);rotate_left
 .refine ρ ?_;refine Jq ⟨q,H,false,rfl,?_⟩;rw[G,show 5-k=0 by grind];rfl
 have hk:k<5:=by grind
 clear h;refine ρ ?_;refine Jl (fun (i:Nat)=>[(0,.slice A n c),(1,.int .i64 (a:Int)),(2,.int .i64 (b:Int)),(3,.func (.func fid) first cap),(10,.int .i64 (k:Int)),(9,.int .i64 (i:Int))]) (λi w'=>DP w w' base A n c ps q/\i0<=i/\a<i/\i<=b/\Go.Sort.scanSorted (ltP ds) q.toArray b i0=Go.Sort.scanSorted (ltP ds) q.toArray b i) (λi=>b-i) i0 sO ⟨H,om⟩ ?_;rintro i wS ⟨HS,ac⟩;refine ρ ?_;refine Xg (fun (t:Bool)=>[(0,.slice A n c),(1,.int .i64 (a:Int)),(2,.int .i64 (b:Int)),(3,.func (.func fid) first cap),(10,.int .i64 (k:Int)),(9,.int .i64 (i:Int)),(36,.bool t)]) (λt w'=>DP w w' base A n c ps q/\(t=true->i<b)/\t=(decide (i<b) && !ltP ds (q.getD i z0) (q.getD (i-1) z0))) ?_ ?_
 .skip
  refine dr [(0,0),(0,1),(0,2),(0,3),(0,4),(0,5),(0,6),(0,7),(0,8),(0,9),(0,10),(0,11),(0,12),(0,13),(1,14),(0,15),(0,16),(0,17)] kr ?_;have U:=HS.drew;refine ρd ?_;refine dki 22 (λh=>?_) (λh=>?_)
  .have hT:i<b:=by have:=oT h;omega
   have lx:i<n:=om
   have ly:i-1<n:=om
   refine ρd ?_;refine dix (i) U.rd lx ?_;refine ρd ?_;refine dld (U.cell lx) ?_;refine ρd ?_;refine dix (i-1) U.rd ly ?_;refine ρd ?_;refine dld (U.cell ly) ?_;refine ρd ?_;refine Zc (hC.callV U lx ly) ?_;rintro r a2 ⟨rfl,F⟩;refine⟨F,?_⟩;have HT:=U.ext F;refine ρd ?_;refine ρ ?_;exact Js _ sB ⟨HT,λ_=>hT,by rw[decide_eq_true hT];rfl⟩
  refine ρd ?_;refine ρ ?_;exact Js false sB ⟨U,(λe=>by cases e),by grind⟩
 rintro t a7 ⟨a1,a4,a3⟩;refine ci (λh=>?_) (λh=>?_)
 .have:=a4 h;have a8:=ssT (a3.symm.trans h);refine ρ ?_;exact Jg (i+1) sO ⟨a1,om⟩ om
 have a6:Go.Sort.scanSorted (ltP ds) q.toArray b i0=i:=by grind [ssF]
 rw[show 5-k=(5-(k+1))+1 by omega,Qym a6]at G;clear a4 HS h a3;refine ρ ?_;refine ci (λh=>?_) (λh=>?_)
 .rw[if_pos (show i=b by have:=Yp h;omega)]at G;refine ρ ?_;exact Jq ⟨q,a1,true,rfl,G⟩
 have aa:i<b:=by have:=Vr h;omega
 rw[if_neg (show¬ i=b by omega)]at G;clear h;refine ρ ?_;refine ci (λh=>?_) (λh=>?_)
 .rw[if_pos (show b-a<50 by grind)]at G;refine ρ ?_;exact Jq ⟨q,a1,false,rfl,G⟩
 rw[if_neg (show¬ b-a<50 by grind)]at G;clear h;have lx:i<n:=om
 have ly:i-1<n:=om
 refine ρ ?_;refine drC 4 [0,1,2,3,4,5,6,7,10,11] [(0,8),(0,9),(0,12),(0,13),(0,14),(2,15),(2,16),(2,17)] kr ?_;have D:=a1.drew;obtain⟨s1,s2,s3,⟨u,s4⟩,s5,s6⟩:=D.swap lx ly;refine ρp ?_;refine dix (i-1) D.rd ly ?_;refine ρd ?_;refine dld (D.cell ly) ?_;refine ρd ?_;refine dix (i) D.rd lx ?_;refine ρd ?_;refine dld (D.cell lx) ?_;refine ρd ?_;refine dix (i) D.rd lx ?_;refine ρd ?_;refine Jf ?_;refine sto (D.cell lx) s1 ?_ (hv:=D.one ly);refine ρ ?_;refine Qh ?_;refine Jf ?_;refine ix (i-1) s2 ly ?_;refine ρ ?_;refine Qh ?_;refine Jf ?_;refine sto s4 s3 ?_ (hv:=D.one lx);refine ρ ?_;have H5:=s5;clear s1 s2 s3 s4 s5 s6 u D a1 H;generalize swp z0 q i (i-1)=q5 at H5 G
 refine Xg (fun (q:List Pr)=>[(0,.slice A n c),(1,.int .i64 (a:Int)),(2,.int .i64 (b:Int)),(3,.func (.func fid) first cap),(9,.int .i64 (i:Int)),(10,.int .i64 (k:Int))]) (λq w'=>DP w w' base A n c ps q/\(if i-a ≥ 2 then Go.Sort.shiftDown (ltP ds) (i-1) q5.toArray else q5.toArray)=q.toArray) ?_ ?_
 .refine ci (λh=>?_) (λh=>?_);rotate_left
  .refine ρ ?_;exact Js _ sB ⟨H5,if_neg (by grind)⟩
  rw[if_pos (show i-a ≥ 2 by grind)];refine ρ ?_;refine Qd (fun (m:Nat) (q:List Pr)=>[(0,.slice A n c),(1,.int .i64 (a:Int)),(2,.int .i64 (b:Int)),(3,.func (.func fid) first cap),(9,.int .i64 (i:Int)),(10,.int .i64 (k:Int)),(11,.int .i64 (m:Int))]) (λm q w'=>DP w w' base A n c ps q/\m<n/\Go.Sort.shiftDown (ltP ds) (i-1) q5.toArray=Go.Sort.shiftDown (ltP ds) m q.toArray) (λm _=>m) (i-1) q5 sO ⟨H5,om,rfl⟩ ?_;rintro m q w2 ⟨H,hm,O⟩;refine ρ ?_;refine ci (λh=>?_) (λh=>?_);rotate_left
  .rw[show m=0 by grind,Go.Sort.shiftDown]at O;refine ρ ?_;exact Js _ sB ⟨H,O⟩
  have h1:1<=m:=by grind
  have J:m-1<n:=om
  refine ρ ?_;refine dr [(0,0),(0,1),(0,2),(0,3),(0,4),(0,5),(0,6),(0,7),(0,8),(0,9),(1,10),(0,11),(0,12)] kr ?_;have Z:=H.drew;refine ρd ?_;refine ρd ?_;refine dix (m) Z.rd hm ?_;refine ρd ?_;refine dld (Z.cell hm) ?_;refine ρd ?_;refine dix (m-1) Z.rd J ?_;refine ρd ?_;refine dld (Z.cell J) ?_;refine ρd ?_;rw[shd h1]at O;refine Zc (hC.callV Z hm J) ?_;rintro r a2 ⟨rfl,F⟩;refine⟨F,?_⟩;have HT:=Z.ext F;refine ρd ?_;refine ρ ?_;refine ci (λh=>?_) (λh=>?_)
  .rw[if_pos (show(!ltP ds (q.getD m z0) (q.getD (m-1) z0))=true from h)]at O;refine ρ ?_;exact Js _ sB ⟨HT,O⟩
  rw[if_neg (show¬ (!ltP ds (q.getD m z0) (q.getD (m-1) z0))=true fromλe=>by grind [ltP,z0])]at O;refine ρ ?_;refine drC 4 [0,1,2,3,4,5,6,7,10,11] [(0,8),(0,9),(0,12),(0,13),(0,14),(2,15),(2,16),(2,17)] kr ?_;have y:=HT.drew;obtain⟨s1,s2,s3,⟨u,s4⟩,s5,s6⟩:=y.swap hm J;refine ρp ?_;refine dix (m-1) y.rd J ?_;refine ρd ?_;refine dld (y.cell J) ?_;refine ρd ?_;refine dix (m) y.rd hm ?_;refine ρd ?_;refine dld (y.cell hm) ?_;refine ρd ?_;refine dix (m) y.rd hm ?_;refine ρd ?_;refine Jf ?_;refine sto (y.cell hm) s1 ?_ (hv:=y.one J);refine ρ ?_;refine Qh ?_;refine Jf ?_;refine ix (m-1) s2 J ?_;refine ρ ?_;refine Qh ?_;refine Jf ?_;refine sto s4 s3 ?_ (hv:=y.one hm);refine ρ ?_;exact Qv (m-1) _ sO ⟨s5,om,O⟩ om
 clear H5;rintro q6 w5 ⟨H5,a5⟩;rw[a5]at G;clear a5 q5;generalize q6=q5 at H5 G
 clear q6;refine ρ ?_;refine ci (λh=>?_) (λh=>?_);rotate_left
 .rw[if_neg (show¬ b-i ≥ 2 by grind)]at G;refine ρ ?_;exact Qa (k+1) i q5 sO ⟨H5,G,om⟩ om
 rw[if_pos (show b-i ≥ 2 by grind)]at G;refine ρ ?_;refine Qd (fun (m:Nat) (q:List Pr)=>[(0,.slice A n c),(1,.int .i64 (a:Int)),(2,.int .i64 (b:Int)),(3,.func (.func fid) first cap),(9,.int .i64 (i:Int)),(10,.int .i64 (k:Int)),(12,.int .i64 (m:Int))]) (λm q w'=>DP w w' base A n c ps q/\Go.Sort.shiftUp (ltP ds) b (i+1) q5.toArray=Go.Sort.shiftUp (ltP ds) b m q.toArray/\0<m/\m<=b) (λm _=>b-m) (i+1) q5 sO ⟨H5,rfl,om⟩ ?_;rintro m q w2 ⟨H,O,hm⟩;refine ρ ?_;refine ci (λh=>?_) (λh=>?_);rotate_left
 .rw[shu0 (show¬ m<b by grind)]at O;rw[O]at G;refine ρ ?_;exact Qa (k+1) i q sO ⟨H,G,om⟩ om
 have h1:m<n:=by grind
 have h2:m<b:=by grind
 have J:m-1<n:=om
 refine ρ ?_;refine dr [(0,0),(0,1),(0,2),(0,3),(0,4),(0,5),(0,6),(0,7),(0,8),(0,9),(1,10),(0,11),(0,12)] kr ?_;have Z:=H.drew;refine ρd ?_;refine ρd ?_;refine dix (m) Z.rd h1 ?_;refine ρd ?_;refine dld (Z.cell h1) ?_;refine ρd ?_;refine dix (m-1) Z.rd J ?_;refine ρd ?_;refine dld (Z.cell J) ?_;refine ρd ?_;rw[shu h2]at O;refine Zc (hC.callV Z h1 J) ?_;rintro r a2 ⟨rfl,F⟩;refine⟨F,?_⟩;have HT:=Z.ext F;refine ρd ?_;refine ρ ?_;refine ci (λh=>?_) (λh=>?_)
 .rw[if_pos (show(!ltP ds (q.getD m z0) (q.getD (m-1) z0))=true from h)]at O;rw[O]at G;refine ρ ?_;exact Qa (k+1) i q sO ⟨HT,G,om⟩ om
 rw[if_neg (show¬ (!ltP ds (q.getD m z0) (q.getD (m-1) z0))=true fromλe=>by grind [ltP,z0])]at O;refine ρ ?_;refine drC 4 [0,1,2,3,4,5,6,7,10,11] [(0,8),(0,9),(0,12),(0,13),(0,14),(2,15),(2,16),(2,17)] kr ?_;have y:=HT.drew;obtain⟨s1,s2,s3,⟨u,s4⟩,s5,s6⟩:=y.swap h1 J;refine ρp ?_;refine dix (m-1) y.rd J ?_;refine ρd ?_;refine dld (y.cell J) ?_;refine ρd ?_;refine dix (m) y.rd h1 ?_;refine ρd ?_;refine dld (y.cell h1) ?_;refine ρd ?_;refine dix (m) y.rd h1 ?_;refine ρd ?_;refine Jf ?_;refine sto (y.cell h1) s1 ?_ (hv:=y.one J);refine ρ ?_;refine Qh ?_;refine Jf ?_;refine ix (m-1) s2 J ?_;refine ρ ?_;refine Qh ?_;refine Jf ?_;refine sto s4 s3 ?_ (hv:=y.one h1);refine ρ ?_;exact Qv (m+1) _ sO ⟨s5,O,om⟩ om
open Go.RowKit Pl Go.Wk
variable {ps q q' q3:List Pr}{base c n:Nat}{A A0:Option Addr}{pm x y z:Pr}{w w' w0:World}
theorem DP.same(h:DP w0 w base A n c ps q)(k:DP w w' base A n c q q): DP w0 w' base A n c ps q:=h.after k
theorem DP.ins{a b:Nat}(h:DP w0 w base A n c ps q)(k1:Dat w' base (.slice A n c) q')(k2:Seg z0 a b q q')(k3:w.grownBy w' (Value.slice A n c).ownBlock): DP w0 w' base A n c ps q' :=
 ⟨k1,k2.perm.trans h.p,Xv h.g k3,by rw[k2.len];exact h.l⟩
section
variable {ds:List Bool} {q q1 q2:List Pr} {a b m A B:Nat}
def BelZ(ds:List Bool)(q:List Pr)(a b:Nat): Prop:=a=0∨∀ i,a<=i->i<b->fP ds (q.getD (a-1) z0) (q.getD i z0)<=0
def KpZ(ds:List Bool)(q:List Pr)(a b A B:Nat): Prop:=∀ q2,Seg z0 a b q q2->SOn z0 (fP ds) q2 a b->SOn z0 (fP ds) q2 A B
theorem KpZ.seg(h:KpZ ds q a b A B)(hs:Seg z0 a b q q1): KpZ ds q1 a b A B:=λq2 y u=>h q2 (hs.trans y) u
theorem BelZ.seg(h:BelZ ds q a b)(hs:Seg z0 a b q q1)(hab:a<=b)(hb:b<=q.length): BelZ ds q1 a b:=by
 rcases h with h|h
 .exact .inl h
 rcases Nat.eq_zero_or_pos a with h0|h0
 .exact .inl h0
 refine .inr λi y u=>?_;rw[hs.lo (a-1) om];exact hs.all hab hb (Φ:=λx=>fP ds (q.getD (a-1) z0) x<=0) h i y u
theorem BelZ.arr(h:BelZ ds q a b): Go.Sort.Below (ltP ds) a b q.toArray:=by
 rcases h with h|h
 .exact .inl h
 exact .inr λi y u=>by rw[az,az];exact ltP_f' (h i y u)
theorem Jkt(h1:fP ds x y<=0)(h2:fP ds y z<=0): fP ds x z<=0:=Jwc _ _ _ ds h1 h2
theorem Qgv{pv:Nat}(H:DP w0 w base A0 n c q q1)(hlq:q.length=n)(hB:BelZ ds q a b)(hK:KpZ ds q a b A B)(h0:0<a)(hlt:ltP ds (q.getD (a-1) z0) (q.getD pv z0)=false)(hp0:a<=pv)(hp1:pv<b)(hb:b<=n)(hE:Go.Sort.partitionEqual (ltP ds) q.toArray a b pv=(m,q1.toArray)): Seg z0 a b q q1/\BelZ ds q1 m b/\KpZ ds q1 m b A B:=by
 have J:∀ i,a<=i->i<b->fP ds (q.getD pv z0) (q.getD i z0)<=0:=λi G F=>by
  rcases hB with h|h
  .omega
  exact Jkt (Ie hlt) (h i G F)
 have hP:=Go.Sort.partitionEqual_holds (ltP ds) (swoP ds) q.toArray a b pv hp0 hp1 (by simpa [hlq] using hb) λi G F=>by
  rw[az,az];exact ltP_f' (J i G F)
 rw[hE]at hP;obtain⟨a2,Z,D,a1,a3⟩:=hP;have O:=H.seg D;have u:=O.all om om (Φ:=λx=>fP ds (q.getD pv z0) x<=0) J;have y:∀ i,a<=i->i<m->fP ds (q1.getD i z0) (q.getD pv z0)<=0:=λi G F=>by
  have:=a1 i G F;rw[az,az]at this;exact Ie this
 refine⟨O,.inr λi G F=>Jkt (y (m-1) om om) (u i om F),λq3 U h4=>hK q3 (O.trans (U.mono om (nR _))) λi j h5 h6 h7=>?_⟩;by_cases hi:i<m
 .rw[U.lo i hi];refine Jkt (y i h5 hi) ?_;by_cases hj:j<m
  .rw[U.lo j hj];exact u j om h7
  exact U.all Z (by rw[O.len];omega) (Φ:=λx=>fP ds (q.getD pv z0) x<=0) (λk k1 k2=>u k om k2) j om h7
 exact h4 i j om h6 h7
theorem Qyn{pv:Nat}{t:Bool}(H:DP w0 w base A0 n c q q1)(hlq:q.length=n)(hp0:a<=pv)(hp1:pv<b)(hb:b<=n)(hE:Go.Sort.partition (ltP ds) q.toArray a b pv=(m,t,q1.toArray)):
  Seg z0 a b q q1/\a<=m/\m<b/\(∀ i,a<=i->i<m->fP ds (q1.getD i z0) (q1.getD m z0)<=0)/\(∀ i,m<i->i<b->fP ds (q1.getD m z0) (q1.getD i z0)<=0):=by
 have U:=Go.Sort.partition_holds (ltP ds) (swoP ds) q.toArray a b pv hp0 hp1 (by simpa [hlq] using hb);rw[hE]at U;obtain⟨D,y,u,F,G⟩:=U;refine⟨H.seg u,D,y,λi O J=>?_,λi O J=>?_⟩
 .have:=F i O J;rw[az,az]at this;exact Int.le_of_lt (Jyz this)
 have:=G i O J;rw[az,az]at this;exact Ie this
theorem Jmh(hm:a<=m)(hmb:m<b)(hpm:q3.getD m z0=pm)(hL:SOn z0 (fP ds) q3 a m)(hR:SOn z0 (fP ds) q3 (m+1) b)(hlo:∀ i,a<=i->i<m->fP ds (q3.getD i z0) pm<=0)(hhi:∀ i,m<i->i<b->fP ds pm (q3.getD i z0)<=0): SOn z0 (fP ds) q3 a b:=λi j D u y=>by
 rcases Nat.lt_trichotomy i m with hi|hi|hi
 .rcases Nat.lt_trichotomy j m with hj|hj|hj
  .exact hL i j D u hj
  repeat grind [Jkt]
 .grind
 exact hR i j om u y
theorem Qfb(hS:Seg z0 a b q q1)(hl:b<=q.length)(hK:KpZ ds q a b A B)(hm:a<=m)(hmb:m<b)(hlo:∀ i,a<=i->i<m->fP ds (q1.getD i z0) (q1.getD m z0)<=0)(hhi:∀ i,m<i->i<b->fP ds (q1.getD m z0) (q1.getD i z0)<=0)(h2:Seg z0 a m q1 q2)(hs:SOn z0 (fP ds) q2 a m): BelZ ds q2 (m+1) b/\KpZ ds q2 (m+1) b A B:=by
 have Z:q1.length=q.length:=hS.len;have U:q2.length=q1.length:=h2.len;have G:q2.getD m z0=q1.getD m z0:=h2.hi m (nR _);have D:∀ i,m+1<=i->i<b->fP ds (q1.getD m z0) (q2.getD i z0)<=0:=λi y u=>by rw[h2.hi i om];grind
 refine⟨.inr λi y u=>by grind,λJ F O=>hK J ((hS.trans (h2.mono (nR _) om)).trans (F.mono om (nR _))) ?_⟩;refine Jmh hm hmb (pm:=q1.getD m z0) (by rw[F.lo m om,G]) (hs.same λk y u=>F.lo k om) O (λi y u=>?_) λi y u=>?_
 .rw[F.lo i om];exact h2.all hm om (Φ:=λx=>fP ds x (q1.getD m z0)<=0) hlo i y u
 exact F.all om om (Φ:=λx=>fP ds (q1.getD m z0) x<=0) D i om u
theorem Qwf(hS:Seg z0 a b q q1)(hl:b<=q.length)(hB:BelZ ds q a b)(hK:KpZ ds q a b A B)(hm:a<=m)(hmb:m<b)(hlo:∀ i,a<=i->i<m->fP ds (q1.getD i z0) (q1.getD m z0)<=0)(hhi:∀ i,m<i->i<b->fP ds (q1.getD m z0) (q1.getD i z0)<=0)(h2:Seg z0 (m+1) b q1 q2)(hs:SOn z0 (fP ds) q2 (m+1) b): BelZ ds q2 a m/\KpZ ds q2 a m A B:=by
 have l1:q1.length=q.length:=hS.len;have l2:q2.length=q1.length:=h2.len;have G:q2.getD m z0=q1.getD m z0:=h2.lo m om;have J:=(hB.seg hS om hl).seg (h2.mono om (nR _)) om om;refine⟨J.imp id λh i y u=>h i y om,λU D Z=>hK U ((hS.trans (h2.mono om (nR _))).trans (D.mono (nR _) om)) ?_⟩;refine Jmh hm hmb (pm:=q1.getD m z0) (by rw[D.hi m (nR _),G]) Z (hs.same λk y u=>D.hi k om) (λi y u=>?_) λi y u=>?_
 .exact D.all hm om (Φ:=λx=>fP ds x (q1.getD m z0)<=0) (λk O F=>by rw[h2.lo k om];exact hlo k O F) i y u
 rw[D.hi i om];exact h2.all om om (Φ:=λx=>fP ds (q1.getD m z0) x<=0) (λk O F=>hhi k om F) i om u
end
theorem Qyg: ∀(m:Nat) {w:World} {base:Nat} {A:Option Addr} {n c:Nat} {fid:FuncId} {first cap:Array Value} {ps:List Pr} {ds:List Bool} (hD:Dat w base (.slice A n c) ps) (hn:ps.length=n) (hmx:n<=140737488355328) (hC:CF w (Value.slice A n c).ownBlock fid first cap ps ds) {a0 b0:Nat} {ai bi lim:Int} (hai:ai=(a0:Int)) (hbi:bi=(b0:Int)) (hab:a0<=b0) (hb:b0<=n) (hl:0<=lim/\lim<=64) (hm:b0-a0<=m) (hBl:BelZ ds ps a0 b0),
  Ret Tryz.prog 120 [.slice A n c,.int .i64 ai,.int .i64 bi,.int .i64 lim,.func (.func fid) first cap] w λv w'=>∃ ps',DP w w' base A n c ps ps'/\Seg z0 a0 b0 ps ps'/\SOn z0 (fP ds) ps' a0 b0:=by
 intro m;induction m using Nat.strongRecOn with
 | ind m ih=>
 intro w base A n c fid first cap ps ds hD hn hmx hC a0 b0 ai bi lim hai hbi hab hb hl hm hBl
 subst hai;subst hbi;refine Jz Tryz.func120 Tryz.ntmps120 rfl kr rfl ?_;refine ρ ?_;refine Gb (fun (ab:Nat×Nat) (lt:Int×Bool) (wp:Bool) (q:List Pr)=>[(0,.slice A n c),(1,.int .i64 (ab.1:Int)),(2,.int .i64 (ab.2:Int)),(3,.int .i64 lt.1),(4,.func (.func fid) first cap),(10,.bool lt.2),(11,.bool wp)])
  (λab lt wp q w'=>DP w w' base A n c ps q/\(Seg z0 a0 b0 ps q/\BelZ ds q ab.1 ab.2/\KpZ ds q ab.1 ab.2 a0 b0/\a0<=ab.1/\ab.2<=b0)/\ab.1<=ab.2/\ab.2<=n/\ab.2-ab.1<=m/\0<=lt.1/\lt.1<=64) (λab _ _ _=>ab.2-ab.1) (a0,b0) (lim,true) true ps sB ⟨DP.start hD hn,⟨Seg.refl _ _ _,hBl,λq2 _ h=>h,Nat.le_refl _,Nat.le_refl _⟩,om,om,om,om,om⟩ ?_
 have am:=hb;clear hD hab hb hm;rintro⟨a,b⟩ ⟨lim,wb⟩ a4 q w1 ⟨H,⟨y,D,u,J,G⟩,hab,hb,hm,a6,a5⟩;simp only at hab hb hm a6 a5 D u J G;refine ρ ?_;refine ci (λh=>?_) (λh=>?_)
 .refine ρ ?_;refine cl (Qfv (ai:=(a:Int)) (bi:=(b:Int)) H.d H.l rfl rfl hb om hmx (hC.step H).pack) ?_;rintro v w2 ⟨q2,k1,k2,k3,k4⟩;refine ρ ?_;exact Jqz ⟨q2,H.ins k1 k2 k4,y.trans (k2.mono J G),u q2 k2 k3⟩
 have a8:a+12<b:=by grind
 clear h;refine ρ ?_;refine ci (λh=>?_) (λh=>?_)
 .refine ρ ?_;refine cl (Qgf (a:=a) (b:=b) H.d H.l hmx (hC.step H) rfl rfl om hb) ?_;rintro v w2 ⟨q2,U,a3⟩;have hs:=Go.Sort.heapSort_holds (lt:=ltP ds) (swoP ds) q.toArray a b om (by simpa [H.l] using hb);rw[a3]at hs;have ae:=U.seg hs.1;refine ρ ?_;exact Jqz ⟨q2,H.after U,y.trans (ae.mono J G),u q2 ae (Jfz hs.2)⟩
 have ah:lim≠0:=Vr h;clear h;refine ρ ?_;refine Ur (fun (lim:Int) (q:List Pr)=>[(0,.slice A n c),(1,.int .i64 (a:Int)),(2,.int .i64 (b:Int)),(3,.int .i64 lim),(4,.func (.func fid) first cap),(10,.bool wb),(11,.bool a4),(12,.int .i64 ((b:Int)-(a:Int)))]) (λlim q w'=>DP w w' base A n c ps q/\0<=lim/\lim<=64/\Seg z0 a0 b0 ps q/\BelZ ds q a b/\KpZ ds q a b a0 b0) ?_ ?_
 .refine ci (λh=>?_) (λh=>?_)
  .refine ρ ?_;refine cl (Qmt (a:=a) (b:=b) H.d H.l hmx (hC.step H) rfl rfl a8 hb) ?_;rintro v w2 ⟨q2,U,F⟩;refine ρ ?_;exact Xl (lim-1) q2 sB ⟨H.after U,om,om,y.trans (F.mono J G),D.seg F om (by rw[H.l];exact hb),u.seg F⟩
  refine ρ ?_;exact Xl lim q sB ⟨H,om,om,y,D,u⟩
 clear H a6 a5 ah y D u lim q;rintro lim q w2 ⟨H,a6,a5,y,D,u⟩;refine ρ ?_;refine cl (Qmn (a:=a) (b:=b) H.d H.l hmx (hC.step H) rfl rfl a8 hb) ?_;rintro v w3 ⟨pv,O,rfl,a2,a1,U⟩;have H3:=H.same U;clear H U;refine ρ ?_;refine Jdt (fun (pv:Nat) (O:Int) (q:List Pr)=>[(0,.slice A n c),(1,.int .i64 (a:Int)),(2,.int .i64 (b:Int)),(3,.int .i64 lim),(4,.func (.func fid) first cap),(10,.bool wb),(11,.bool a4),(12,.int .i64 ((b:Int)-(a:Int))),(13,.int .i64 (pv:Int)),(14,.int .i64 O)]) (λpv O q w'=>DP w w' base A n c ps q/\a<=pv/\pv<b/\Seg z0 a0 b0 ps q/\BelZ ds q a b/\KpZ ds q a b a0 b0) ?_ ?_
 .refine ci (λh=>?_) (λh=>?_)
  .refine ρ ?_;refine cl (Qwh (a:=a) (b:=b) H3.d H3.l hmx (hC.step H3) rfl rfl om hb) ?_;rintro v w2 ⟨q2,U,F⟩;refine ρ ?_;exact Jzg (b-1-(pv-a)) 1 q2 sO ⟨H3.after U,om,om,y.trans (F.mono J G),D.seg F om (by rw[H3.l];exact hb),u.seg F⟩
  refine ρ ?_;exact Jzg pv O q sB ⟨H3,a2,a1,y,D,u⟩
 clear H3 a2 a1 y D u pv O q;rintro pv O q w3 ⟨H,a2,a1,y,D,u⟩;refine ρ ?_;refine Kp (fun (t:Bool)=>[(0,.slice A n c),(1,.int .i64 (a:Int)),(2,.int .i64 (b:Int)),(3,.int .i64 lim),(4,.func (.func fid) first cap),(10,.bool wb),(11,.bool a4),(12,.int .i64 ((b:Int)-(a:Int))),(13,.int .i64 (pv:Int)),(75,.bool t)]) (λt w'=>DP w w' base A n c ps q) ?_ ?_
 .refine ki 69 (λh=>?_) (λh=>?_)
  .refine ρ ?_;refine ki 72 (λh=>?_) (λh=>?_)
   .refine ρ ?_;exact Js _ sB H
   refine ρ ?_;exact Js _ sB H
  refine ρ ?_;exact Js _ sB H
 clear H;rintro t w4 H;refine Xg (fun (q:List Pr)=>[(0,.slice A n c),(1,.int .i64 (a:Int)),(2,.int .i64 (b:Int)),(3,.int .i64 lim),(4,.func (.func fid) first cap),(10,.bool wb),(11,.bool a4),(12,.int .i64 ((b:Int)-(a:Int))),(13,.int .i64 (pv:Int))]) (λq w'=>DP w w' base A n c ps q/\Seg z0 a0 b0 ps q/\BelZ ds q a b/\KpZ ds q a b a0 b0) ?_ ?_
 .refine ci (λh=>?_) (λh=>?_)
  .refine ρ ?_;refine cl (Qyl (a:=a) (b:=b) H.d H.l hmx (hC.step H) rfl rfl om hb) ?_;rintro v w2 ⟨q2,U,t2,rfl,a3⟩;have hs:=Go.Sort.partialInsertionSort_holds (lt:=ltP ds) (swoP ds) q.toArray a b om (by simpa [H.l] using hb) D.arr;rw[a3]at hs;have F:=U.seg hs.1;refine ρ ?_;refine ci (λh=>?_) (λh=>?_)
   .refine ρ ?_;exact Jqz ⟨q2,H.after U,y.trans (F.mono J G),u q2 F (Jfz (hs.2 h))⟩
   refine ρ ?_;exact Js _ sB ⟨H.after U,y.trans (F.mono J G),D.seg F om (by rw[H.l];exact hb),u.seg F⟩
  refine ρ ?_;exact Js _ sB ⟨H,y,D,u⟩
 clear H y D u q;rintro q w5 ⟨H,y,D,u⟩;refine ρ ?_;refine Xg (fun (t:Bool)=>[(0,.slice A n c),(1,.int .i64 (a:Int)),(2,.int .i64 (b:Int)),(3,.int .i64 lim),(4,.func (.func fid) first cap),(10,.bool wb),(11,.bool a4),(12,.int .i64 ((b:Int)-(a:Int))),(13,.int .i64 (pv:Int)),(97,.bool t)]) (λt w'=>DP w w' base A n c ps q/\(t=true->0<a/\ltP ds (q.getD (a-1) z0) (q.getD pv z0)=false)) ?_ ?_
 .skip
  refine dr [(0,0),(0,1),(0,2),(0,3),(0,4),(0,5),(0,6),(0,7),(0,8),(0,9),(0,10),(0,11),(0,12),(1,13),(0,14),(0,15),(0,16)] kr ?_;have Hd:=H.drew;refine ρd ?_;refine dki 83 (λh=>?_) (λh=>?_)
  .have hT:0<a:=by have:=oT h;omega
   have lx:a-1<n:=om
   have ly:pv<n:=om
   refine ρd ?_;refine dix (a-1) Hd.rd lx ?_;refine ρd ?_;refine dld (Hd.cell lx) ?_;refine ρd ?_;refine dix (pv) Hd.rd ly ?_;refine ρd ?_;refine dld (Hd.cell ly) ?_;refine ρd ?_;refine Zc (hC.callV Hd lx ly) ?_;rintro r ak ⟨rfl,a7⟩;refine⟨a7,?_⟩;have HT:=Hd.ext a7;refine ρd ?_;refine ρ ?_;exact Js _ sB ⟨HT,λe=>⟨hT,by grind [ltP,z0,pv]⟩⟩
  refine ρd ?_;refine ρ ?_;exact Js false sB ⟨Hd,λe=>by cases e⟩
 clear H;rintro t2 w6 ⟨H,a9⟩;refine ci (λh=>?_) (λh=>?_)
 .refine ρ ?_;refine cl (Qyr (a:=a) (b:=b) (pv:=pv) H.d H.l hmx (hC.step H) rfl rfl rfl om hb a2 a1) ?_;rintro v w2 ⟨q2,U,Z,rfl,ac,aa,a3⟩;obtain⟨k1,k2,k3⟩:=Qgv U H.l D u (a9 h).1 (a9 h).2 a2 a1 hb a3;refine ρ ?_;exact Yk (Z,b) (lim,wb) a4 q2 sB ⟨H.after U,⟨y.trans (k1.mono J G),k2,k3,by simp only;omega,G⟩,by simp only;omega,by simp only;omega,by simp only;omega,by simp only;omega,by simp only;omega⟩ (by simp only;omega)
 refine ρ ?_;refine cl (Qyp (a:=a) (b:=b) (pv:=pv) H.d H.l hmx (hC.step H) rfl rfl rfl om hb a2 a1) ?_;rintro v w7 ⟨q2,U,Z,af,rfl,ac,aa,a3⟩;have H3:=H.after U;obtain⟨k1,_,_,k4,k5⟩:=Qyn U H.l a2 a1 hb a3;have ad:b<=q.length:=by rw[H.l];exact hb
 have aj:=D.seg k1 om ad;clear H U a9;refine ρ ?_;refine qn (b-a) 8 ?_;refine ρ ?_;refine ci (λh=>?_) (λh=>?_)
 .refine ρ ?_;refine cl (ih (Z-a) om H3.d H3.l hmx (hC.step H3) (a0:=a) (b0:=Z) rfl rfl om om ⟨a6,a5⟩ (nR _) (aj.imp id λh i j1 j2=>h i j1 om)) ?_;rintro v w8 ⟨q3,H4,k6,k7⟩;obtain⟨k8,k9⟩:=Qfb k1 ad u ac aa k4 k5 k6 k7;refine ρ ?_;exact Yk (Z+1,b) (lim,_) af q3 sO ⟨H3.after H4,⟨(y.trans (k1.mono J G)).trans (k6.mono J om),k8,k9,by simp only;omega,G⟩,by simp only;omega,by simp only;omega,by simp only;omega,by simp only;omega,by simp only;omega⟩ (by simp only;omega)
 refine ρ ?_;refine cl (ih (b-(Z+1)) om H3.d H3.l hmx (hC.step H3) (a0:=Z+1) (b0:=b) (ai:=(Z:Int)+1) om rfl om om ⟨a6,a5⟩ (nR _) (.inr λi j1 j2=>by grind)) ?_;rintro v w8 ⟨q3,H4,k6,k7⟩;obtain⟨k8,k9⟩:=Qwf k1 ad D u ac aa k4 k5 k6 k7;refine ρ ?_;exact Yk (a,Z) (lim,_) af q3 sO ⟨H3.after H4,⟨(y.trans (k1.mono J G)).trans (k6.mono om G),k8,k9,J,by simp only;omega⟩,by simp only;omega,by simp only;omega,by simp only;omega,by simp only;omega,by simp only;omega⟩ (by simp only;omega)
end Go.Proofs.YtebiphhfkdbpfaaGreat
namespace Go.Wk
open Go.RowKit
variable {cs xs:List Value}{base e m n:Nat}{N N':Nat->Prop}{g:Option Nat}{v x:Value}{a w w':World}
structure GrN(N:Nat->Prop)(w w':World): Prop where
 os:w'.os=w.os
 tape:w'.tape=w.tape
 output:w'.output=w.output
 size:w.heap.size<=w'.heap.size
 block:∀ k,k<w.heap.size->¬ N k->w'.heap[k]?=w.heap[k]?
theorem GrN.refl(N:Nat->Prop)(w:World): GrN N w w:=⟨rfl,rfl,rfl,Nat.le_refl _,λ_ _ _=>rfl⟩
theorem GrN.ext(h:Ext w w'): GrN N w w':=⟨h.os,h.tape,h.output,h.size,λk u _=>h.block k u⟩
theorem GrN.trans{N:Nat->Prop}{a b c:World}(h:GrN N a b)(k:GrN N b c): GrN N a c :=
 ⟨k.os.trans h.os,k.tape.trans h.tape,k.output.trans h.output,Nat.le_trans h.size k.size,λj u hn=>(k.block j (nM u h.size) hn).trans (h.block j u hn)⟩
theorem GrN.by(h:w.grownBy w' g)(hg:∀ k,g=some k->N k): GrN N w w':=⟨h.os,h.tape,h.output,h.size,λk u hn=>h.block k u (λe=>hn (hg k e.symm))⟩
theorem GrN.set{p:Addr}(u:Value)(hp:N p.block): GrN N w (w.setCell p u):=by
 refine⟨rfl,rfl,rfl,by simp[World.setCell],λk y hn=>Below.heap_setCell w p u k ?_⟩;grind
theorem GrN.mono(h:GrN N w w')(hN:∀ k,k<w.heap.size->N k->N' k): GrN N' w w':=⟨h.os,h.tape,h.output,h.size,λk u hn=>h.block k u (λe=>hn (hN k u e))⟩
theorem GrN.old(h:GrN N w w')(hx:Ext a w)(hN:∀ k,N k->a.heap.size<=k): Ext a w' :=
 ⟨h.os.trans hx.os,h.tape.trans hx.tape,h.output.trans hx.output,Nat.le_trans hx.size h.size,λk u=>(h.block k (nM u hx.size) (λe=>by have:=hN k e;omega)).trans (hx.block k u)⟩
theorem GrN.toExt(h:GrN (λ_=>False) w w'): Ext w w':=⟨h.os,h.tape,h.output,h.size,λk u=>h.block k u (λe=>e)⟩
def Off(N:Nat->Prop)(w:World)(Φ:World->Prop): Prop:=∀ w',GrN N w w'->Φ w'
section
variable {N N':Nat->Prop} {w w':World} {Φ Ψ:World->Prop}
theorem Off.here(h:Off N w Φ): Φ w:=h w (GrN.refl N w)
theorem Off.gr(h:Off N w Φ)(hg:GrN N w w'): Off N w' Φ:=λu y=>h u (hg.trans y)
theorem Off.ext(h:Off N w Φ)(hx:Ext w w'): Off N w' Φ:=h.gr (GrN.ext hx)
theorem Off.mono(h:Off N w Φ)(hN:∀ k,k<w.heap.size->N' k->N k): Off N' w Φ:=λw' u=>h w' (u.mono hN)
theorem Off.imp(h:Off N w Φ)(hi:∀ u,Φ u->Ψ u): Off N w Ψ:=λw' y=>hi w' (h w' y)
theorem Off.and(h:Off N w Φ)(k:Off N w Ψ): Off N w (λu=>Φ u/\Ψ u):=λw' y=>⟨h w' y,k w' y⟩
theorem Off.grown(h:Off N w Φ)(hg:w.grownBy w' g)(hN:∀ k,g=some k->N k): Off N w' Φ:=h.gr (GrN.by hg hN)
theorem Off.set(h:Off N w Φ){p:Addr}(u:Value)(hp:N p.block): Off N (w.setCell p u) Φ:=h.gr (GrN.set u hp)
theorem Off.old{a:World}(hΦ:∀ u,Ext a u->Φ u)(hx:Ext a w)(hN:∀ k,N k->a.heap.size<=k): Off N w Φ:=λw' y=>hΦ w' (y.old hx hN)
theorem Zg{sz:Nat}{A:Option Addr}(h:Rd w sz A n cs)(hg:GrN N w w')(hA:0<cs.length->∀ ad,A=some ad->¬ N ad.block): Rd w' sz A n cs :=
 ⟨h.1,λh0=>by
  obtain⟨ad,e,y,F⟩:=h.2 h0;refine⟨ad,e,Nat.lt_of_lt_of_le y hg.size,λj u D=>?_⟩;rw[<-F j u D];exact World.cell?_of_block (by rw[Yg];exact hg.block _ y (hA h0 ad e))⟩
theorem Ja{g:Nat}{t:TypeId}(h:Blk w g t cs)(hg:GrN N w w')(hn:¬ N g): Blk w' g t cs:=(hg.block g h.lt hn).trans h
theorem Jo{sz:Nat}(h:w.ownsRow base e sz v m xs)(hg:GrN N w w')(hn:∀ g,v.ownBlock=some g->¬ N g): w'.ownsRow base e sz v m xs:=by
 rcases h with⟨G,⟨rfl,rfl⟩|⟨g,F,D,rfl,Z,O,y,J,U,ht⟩⟩
 .exact⟨G,.inl ⟨rfl,rfl⟩⟩
 refine⟨G,.inr ⟨g,F,D,rfl,Z,?_,y,J,U,ht⟩⟩;have u:g<w.heap.size:=by grind
 rw[hg.block g u (hn g rfl)];exact O
theorem Jqk{sz:Nat}(h:w.ownsRow base e sz v m xs)(hn:∀ g,v.ownBlock=some g->¬ N g): Off N w (λu=>u.ownsRow base e sz v m xs):=λw' y=>Jo h y hn
end
theorem Zz{P:Program}{al:AL}{tt:TT}[h:Tab P tt]{fn:Func}{Φ:Value->World->Prop}{c t t1 b:Nat}{k:TK}(hb:Blk w b t cs)(hp:Φ (.tuple #[.agg cs.toArray,x]) w)(hr:fn.results = #[.cell c t,.tmp t1]:=by rfl)(ht:tk tt t=some k:=by rfl)(hk:k.desc=.invalid:=by rfl)(hs:k.size=cs.length:=by rfl)(hc:lk al c=some (.pointer (some ⟨b,0,none⟩)):=by rfl)(h1:lk al t1=some x:=by rfl):
  QX n (Ze P fn Φ) .ret al w :=
 Jkz (rs:=[.cell c t,.tmp t1]) (vs:=[.agg cs.toArray,x]) hr ⟨⟨_,hc,Ku h.ok ht hk hs (λj u y=>hb.at y)⟩,h1,trivial⟩ rfl hp
end Go.Wk
