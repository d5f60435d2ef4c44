/- Part 1. -/
import Derived.Test.YtebiphhfkdbpfaaGreatDoorC00
import Derived.Test.YtebiphhfkdbpfaaGreatDoorRows
import Derived.IntWalk
import Derived.Laws.Cover3
import Derived.Lib.Bytealg
import Derived.Laws.Bits64b
import Derived.Laws.CopyRow
set_option linter.unusedVariables false
set_option maxRecDepth 100000
set_option maxHeartbeats 40000000
namespace Go.Proofs.YtebiphhfkdbpfaaGreatDoor
namespace Pl
variable {a b l:List UInt32}{i m n:Nat}{c:UInt32}
def val: List UInt32->Nat
 | []=>0
 | c::l=>c.toNat+4294967296*val l
def Jj(n:Nat): List UInt32:=if h:n=0 then[] else UInt32.ofNat n::Jj (n / 4294967296)
termination_by n
decreasing_by exact Nat.div_lt_self om (by decide)
theorem limbs_0: Jj 0=[]:=by rw[Jj];rfl
theorem Jxw(h:n≠0): Jj n=UInt32.ofNat n::Jj (n / 4294967296):=by rw[Jj,dif_neg h]
theorem Qqm(h:c.toNat+4294967296*m≠0): Jj (c.toNat+4294967296*m)=c::Jj m:=by
 have i:=c.toNat_lt;grind [Jxw,UInt32.toNat_inj.1,UInt32.toNat_ofNat']
def Qu: List UInt32->List UInt32
 | []=>[]
 | c::l=>if Qu l=[]/\c=0 then[] else c::Qu l
theorem val_0(h:Qu l=[]): val l=0:=by
 induction l with
 | nil=>rfl
 | cons c l ih=>
  simp only[Qu]at h;split at h
  .rename_i h2;rw[val,ih h2.1,h2.2];rfl
  cases h
theorem Km: ∀ l:List UInt32,Qu l=Jj (val l)
 | []=>by rw[val,limbs_0];rfl
 | c::l=>by
  have ih:=Km l;simp only[Qu,val];split
  .rename_i h;rw[val_0 h.1,h.2];exact limbs_0.symm
  rename_i h;rw[Qqm,ih];intro h0;apply h
  have hv:val l=0:=om
  refine⟨?_,?_⟩
  .rw[ih,hv,limbs_0]
  apply UInt32.toNat_inj.1
  grind
theorem Zs(n:Nat): val (Jj n)=n:=by
 induction n using Nat.strongRecOn with
 | ind n ih=>
  grind [limbs_0,Jxw,val,Nat.div_lt_self,UInt32.toNat_ofNat']
theorem Qcc(n:Nat): Qu (Jj n)=Jj n:=by rw[Km,Zs]
theorem Jnx(l:List UInt32): Qu (l++[0])=Qu l:=by
 induction l with
 | nil=>rfl
 | cons c l ih=>simp only[List.cons_append,Qu,ih]
theorem Qcb(l:List UInt32)(h:c≠0): Qu (l++[c])=l++[c]:=by
 induction l with
 | nil=>simp[Qu,h]
 | cons d l ih=>simp only[List.cons_append,Qu,ih];simp
theorem Xa(a b:List UInt32): val (a++b)=val a+4294967296^a.length*val b:=by
 induction a with
 | nil=>simp[val]
 | cons c a ih=>rw[List.cons_append,val,val,ih,List.length_cons,Nat.pow_succ,Nat.mul_add,<-Nat.mul_assoc,Nat.mul_comm (4294967296^a.length) 4294967296];omega
theorem Gq(a:List UInt32): val a<4294967296^a.length:=by
 induction a with
 | nil=>simp[val]
 | cons c a ih=>
  have i:c.toNat<4294967296:=c.toNat_lt;grind [val,List.length_cons,Nat.pow_succ,Nat.mul_le_mul_left,Nat.mul_comm]
theorem Qbt(l:List UInt32)(h:c≠0): 4294967296^l.length<=val (l++[c]):=by
 have i:0<c.toNat:=by
  rcases Nat.eq_zero_or_pos c.toNat with h0|h0
  .exact absurd (UInt32.toNat_inj.1 h0) h
  exact h0
 rw[Xa,val];have:4294967296^l.length*1<=4294967296^l.length*(c.toNat+4294967296*val []):=Nat.mul_le_mul_left _ om;omega
theorem Jgx(h:n≠0): ∃ l c,Jj n=l++[c]/\c≠0:=by
 rcases List.eq_nil_or_concat (Jj n) with h0|⟨l,c,h0⟩
 .have:=Zs n;rw[h0]at this;exact absurd this.symm h
 refine⟨l,c,by rw[h0];simp,λu=>?_⟩;subst u;have i:=Qcc n;rw[h0,List.concat_eq_append,Jnx]at i;have j:=congrArg List.length i;have y:(Qu l).length<=l.length:=by
  clear i j h0;induction l with
  | nil=>simp[Qu]
  | cons c l ih=>simp only[Qu];split<;>simp;exact ih
 simp at j;omega
theorem Jbk(h:n≠0): 4294967296^((Jj n).length-1)<=n:=by
 obtain⟨l,c,j,i⟩:=Jgx h;grind [Qbt,Zs]
theorem Qql(n:Nat): n<4294967296^(Jj n).length:=by grind [Gq,Jj,Zs]
theorem Jgt(h:(Jj n).length<(Jj m).length): n<m:=by
 have i:m≠0:=by grind [limbs_0]
 have y:=Jbk i;have u:=Qql n;have j:4294967296^(Jj n).length<=4294967296^((Jj m).length-1):=Nat.pow_le_pow_right (by decide) om;omega
def Vt(n m:Nat): Int:=if n<m then -1 else if m<n then 1 else 0
theorem Qbs(ha:i<a.length)(hab:a.length=b.length)(ht:a.drop (i+1)=b.drop (i+1))(hl:(a.getD i 0).toNat<(b.getD i 0).toNat): val a<val b:=by
 have G:i<b.length:=om
 have D:a=a.take i++(a.getD i 0::a.drop (i+1)):=by grind [List.getD,List.getElem?_eq_getElem,List.drop_eq_getElem_cons,List.take_append_drop]
 have B:b=b.take i++(b.getD i 0::b.drop (i+1)):=by grind [List.getD,List.getElem?_eq_getElem,List.drop_eq_getElem_cons,List.take_append_drop]
 rw[D,B,Xa,Xa,val,val,ht];have y:(a.take i).length=i:=by grind
 have u:(b.take i).length=i:=by grind
 have j:=Gq (a.take i);rw[y]at j ⊢;rw[u];have:4294967296^i*((a.getD i 0).toNat+1+4294967296*val (b.drop (i+1)))<=4294967296^i*((b.getD i 0).toNat+4294967296*val (b.drop (i+1))):=Nat.mul_le_mul_left _ om;grind
end Pl
open Go.RowKit Go.Wk
def tt: TT:=[
 (3,{ desc:=.int .i64 }),
 (2,{ desc:=.int .i64 }),
 (5,{ desc:=.int .u8 }),
 (63,{ desc:=.int .u32 }),
 (55,{ desc:=.int .u64 }),
 (120,{ desc:=.int .u64 }),
 (4,{ desc:=.bool }),
 (43,{ desc:=.int .i64 }),
 (304,{ desc:=.int .i64 }),
 (326,{ desc:=.int .u64 }),
 (40,{ desc:=.slice 63,esz:=1 }),
 (27,{ desc:=.slice 4,esz:=1 }),
 (22,{ desc:=.slice 3,esz:=1 }),
 (74,{ desc:=.slice 5,esz:=1 }),
 (39,{ desc:=.slice 63,esz:=1 }),
 (85,{ desc:=.slice 102,esz:=3 }),
 (84,{ desc:=.slice 102,esz:=3 }),
 (78,{ desc:=.slice 85,esz:=1 }),
 (28,{ desc:=.slice 22,esz:=1 }),
 (29,{ desc:=.slice 78,esz:=1 }),
 (49,{ desc:=.slice 66,esz:=3 }),
 (33,{ desc:=.slice 82,esz:=3 }),
 (213,{ desc:=.slice 219,esz:=3 }),
 (86,{ desc:=.slice 213,esz:=1 }),
 (87,{ desc:=.slice 228,esz:=1 }),
 (143,{ desc:=.slice 204,esz:=1 }),
 (144,{ desc:=.slice 212,esz:=1 }),
 (205,{ desc:=.slice 264,esz:=2 }),
 (291,{ desc:=.slice 297,esz:=1 }),
 (288,{ desc:=.slice 291,esz:=1 }),
 (292,{ desc:=.slice 314,esz:=2 }),
 (38,{ desc:=.slice 40,esz:=1 }),
 (102,{ desc:=.invalid,size:=3,offs:=[0,1,2] }),
 (80,{ desc:=.invalid,size:=2,offs:=[0,1] }),
 (82,{ desc:=.invalid,size:=3,offs:=[0,1] }),
 (35,{ desc:=.invalid,size:=5,offs:=[0,1,2,3,4] }),
 (89,{ desc:=.invalid,size:=5,offs:=[0,1,2,3,4] }),
 (31,{ desc:=.invalid,size:=6,offs:=[0,1,2,3,4,5] }),
 (94,{ desc:=.invalid,size:=5,offs:=[0,1,2,3,4] }),
 (66,{ desc:=.invalid,size:=3,offs:=[0,1,2] }),
 (48,{ desc:=.invalid,size:=2,offs:=[0,1] }),
 (217,{ desc:=.invalid,size:=2,offs:=[0,1] }),
 (269,{ desc:=.invalid,size:=4,offs:=[0,3] }),
 (276,{ desc:=.invalid,size:=9,offs:=[0,4,5,6,7,8] }),
 (219,{ desc:=.invalid,size:=3,offs:=[0,1] }),
 (264,{ desc:=.invalid,size:=2,offs:=[0,1] }),
 (146,{ desc:=.invalid,size:=10,offs:=[0,5,6,7,8,9] }),
 (238,{ desc:=.invalid,size:=9,offs:=[0,5,6,7,8] }),
 (290,{ desc:=.invalid,size:=4,offs:=[0,1,2,3] }),
 (314,{ desc:=.invalid,size:=2,offs:=[0,1] }),
 (294,{ desc:=.invalid,size:=1,offs:=[0] }),
 (316,{ desc:=.invalid,size:=2,offs:=[0,1] }),
 (319,{ desc:=.invalid,size:=69,offs:=[0,1,2,4,68] }),
 (231,{ desc:=.pointer 238 }),
 (215,{ desc:=.pointer 276 }),
 (203,{ desc:=.pointer 146 }),
 (222,{ desc:=.pointer 219 }),
 (287,{ desc:=.pointer 290 }),
 (297,{ desc:=.pointer 319 }),
 (330,{ desc:=.pointer 3 }),
 (339,{ desc:=.pointer 326 }),
 (164,{ desc:=.array 32 3,size:=32,esz:=1 }),
 (165,{ desc:=.array 32 63,size:=32,esz:=1 }),
 (317,{ desc:=.array 32 316,size:=64,esz:=2 }),
 (334,{ desc:=.array 24 5,size:=24,esz:=1 }),
 (202,{ desc:=.func #[85] #[4] false }),
 (228,{ desc:=.map 9 3 }),
 (204,{ desc:=.map 9 4 }),
 (212,{ desc:=.map 9 40 }),
 (236,{ desc:=.map 3 217 }),
 (277,{ desc:=.func #[215] #[3] false }),
 (56,{ desc:=.slice 58,esz:=3 }),
 (122,{ desc:=.slice 56,esz:=1 }),
 (58,{ desc:=.invalid,size:=3,offs:=[0,1,2] }),
 (60,{ desc:=.invalid,size:=5,offs:=[0,1,2] }),
 (124,{ desc:=.invalid,size:=3,offs:=[0,1,2] }),
 (128,{ desc:=.invalid,size:=7,offs:=[0,1,2,3,4] }),
 (182,{ desc:=.invalid,size:=5,offs:=[0,1,2,3,4] }),
 (42,{ desc:=.invalid,size:=4,offs:=[0,1,2,3] }),
 (175,{ desc:=.pointer 182 }),
 (105,{ desc:=.array 91 3,size:=91,esz:=1 }),
 (173,{ desc:=.map 63 4 }),
 (188,{ desc:=.func #[3,58] #[] false }),
 (70,{ desc:=.func #[40,40] #[40] false }),
 (118,{ desc:=.func #[3] #[4] false }),
 (9,{ desc:=.string })]
theorem Jqs: TOk Tryz.prog tt:=⟨
 ⟨kr,kr⟩,
 ⟨kr,kr⟩,
 ⟨kr,kr⟩,
 ⟨kr,kr⟩,
 ⟨kr,kr⟩,
 ⟨kr,kr⟩,
 ⟨kr,kr⟩,
 ⟨kr,kr⟩,
 ⟨kr,kr⟩,
 ⟨kr,kr⟩,
 ⟨kr,kr,kr⟩,
 ⟨kr,kr,kr⟩,
 ⟨kr,kr,kr⟩,
 ⟨kr,kr,kr⟩,
 ⟨kr,kr,kr⟩,
 ⟨kr,kr,kr⟩,
 ⟨kr,kr,kr⟩,
 ⟨kr,kr,kr⟩,
 ⟨kr,kr,kr⟩,
 ⟨kr,kr,kr⟩,
 ⟨kr,kr,kr⟩,
 ⟨kr,kr,kr⟩,
 ⟨kr,kr,kr⟩,
 ⟨kr,kr,kr⟩,
 ⟨kr,kr,kr⟩,
 ⟨kr,kr,kr⟩,
 ⟨kr,kr,kr⟩,
 ⟨kr,kr,kr⟩,
 ⟨kr,kr,kr⟩,
 ⟨kr,kr,kr⟩,
 ⟨kr,kr,kr⟩,
 ⟨kr,kr,kr⟩,
 ⟨_,Tryz.underlying102,kr,kr⟩,
 ⟨_,Tryz.underlying80,kr,kr⟩,
 ⟨_,Tryz.underlying82,kr,kr⟩,
 ⟨_,Tryz.underlying35,kr,kr⟩,
 ⟨_,Tryz.underlying89,kr,kr⟩,
 ⟨_,Tryz.underlying31,kr,kr⟩,
 ⟨_,Tryz.underlying94,kr,kr⟩,
 ⟨_,Tryz.underlying66,kr,kr⟩,
 ⟨_,Tryz.underlying48,kr,kr⟩,
 ⟨_,Tryz.underlying217,kr,kr⟩,
 ⟨_,Tryz.underlying269,kr,kr⟩,
 ⟨_,Tryz.underlying276,kr,kr⟩,
 ⟨_,Tryz.underlying219,kr,kr⟩,
 ⟨_,Tryz.underlying264,kr,kr⟩,
 ⟨_,Tryz.underlying146,kr,kr⟩,
 ⟨_,Tryz.underlying238,kr,kr⟩,
 ⟨_,Tryz.underlying290,kr,kr⟩,
 ⟨_,Tryz.underlying314,kr,kr⟩,
 ⟨_,Tryz.underlying294,kr,kr⟩,
 ⟨_,Tryz.underlying316,kr,kr⟩,
 ⟨_,Tryz.underlying319,kr,kr⟩,
 ⟨kr,kr⟩,
 ⟨kr,kr⟩,
 ⟨kr,kr⟩,
 ⟨kr,kr⟩,
 ⟨kr,kr⟩,
 ⟨kr,kr⟩,
 ⟨kr,kr⟩,
 ⟨kr,kr⟩,
 ⟨kr,kr,kr⟩,
 ⟨kr,kr,kr⟩,
 ⟨kr,kr,kr⟩,
 ⟨kr,kr,kr⟩,
 ⟨kr,kr⟩,
 ⟨kr,kr⟩,
 ⟨kr,kr⟩,
 ⟨kr,kr⟩,
 ⟨kr,kr⟩,
 ⟨kr,kr⟩,
 ⟨kr,kr,kr⟩,
 ⟨kr,kr,kr⟩,
 ⟨_,Tryz.underlying58,kr,kr⟩,
 ⟨_,Tryz.underlying60,kr,kr⟩,
 ⟨_,Tryz.underlying124,kr,kr⟩,
 ⟨_,Tryz.underlying128,kr,kr⟩,
 ⟨_,Tryz.underlying182,kr,kr⟩,
 ⟨_,Tryz.underlying42,kr,kr⟩,
 ⟨kr,kr⟩,
 ⟨kr,kr,kr⟩,
 ⟨kr,kr⟩,
 ⟨kr,kr⟩,
 ⟨kr,kr⟩,
 ⟨kr,kr⟩,
 ⟨kr,kr⟩,
 trivial⟩
theorem mixed: Tryz.prog.follows .mixedOrders=true:=kr
instance:Tab Tryz.prog tt:=⟨Jqs,mixed⟩
theorem EN: ElT Tryz.prog 40 63 1 4 (.int .u32 0):=⟨Tryz.underlying40,info_parts kr,rfl,by decide⟩
theorem EV: ElT Tryz.prog 85 102 3 32 (.agg #[.int .i64 0,.int .i64 0,.string ⟨#[]⟩]):=⟨Tryz.underlying85,info_parts kr,rfl,by decide⟩
theorem ER: ElT Tryz.prog 78 85 1 24 (.slice none 0 0):=⟨Tryz.underlying78,info_parts kr,rfl,by decide⟩
theorem bsN(x y:Int)(w:World): (Instr.buildSlice 40 2 #[(0,.int .u32 x),(1,.int .u32 y)]).run Tryz.prog w=.ok (.slice (some ⟨w.heap.size,0,none⟩) 2 2) (w.alloc (.cells #[.int .u32 x,.int .u32 y] 63)):=kr
open Go.RowKit Pl Go.Wk
attribute [local irreducible] WC WL QX WD WDB
variable {l:List UInt32}{c k m n:Nat}{A:Option Addr}{a b:UInt32}{u v:Value}{w:World}
def Nc(l:List UInt32): List Value:=l.map λc=>.int .u32 (c.toNat:Int)
theorem Va(l:List UInt32): (Nc l).length=l.length:=by simp[Nc]
theorem Qm(h:k<l.length): (Nc l)[k]?=some (.int .u32 ((l.getD k 0).toNat:Int)):=by simp[Nc,List.getD,List.getElem?_eq_getElem h]
theorem Xvq(l:List UInt32)(k:Nat): (Nc l).take k=Nc (l.take k):=by simp[Nc]
theorem Jzr(l:List UInt32): ∀ u∈Nc l,u.oneCell'=true:=by
 intro u i;simp[Nc]at i;obtain⟨c,_,rfl⟩:=i;rfl
def NatV(w:World)(v:Value)(n:Nat): Prop:=∃ A c,v=.slice A (Jj n).length c/\(Jj n).length<=c/\(Jj n).length<=4611686018427387904/\Rd w 1 A (Jj n).length (Nc (Jj n))
theorem NatV.ext{w w':World}{v:Value}{n:Nat}(h:NatV w v n)(hx:Ext w w'): NatV w' v n:=by
 obtain⟨A,c,y,u,j,i⟩:=h;exact⟨A,c,y,u,j,i.ext hx⟩
theorem NatV.nil(w:World): NatV w (.slice none 0 0) 0:=⟨none,0,by rw[limbs_0];rfl,by rw[limbs_0];simp,by rw[limbs_0];simp,by rw[limbs_0];exact Rd.nil⟩
theorem Jdj: ∀ l:List UInt32,Qu l=l.take (Qu l).length
 | []=>rfl
 | c::l=>by
  simp only[Qu];split
  .rfl
  rw[List.length_cons,List.take_succ_cons,<-Jdj l]
theorem Jnz(l:List UInt32): (Qu l).length<=l.length:=by grind [List.length,Jdj,List.length_take]
theorem Kl(hr:Rd w 1 A l.length (Nc l))(hm:l.length<=4611686018427387904): NatV w (.slice A (Jj (val l)).length (Jj (val l)).length) (val l):=by
 have h:=hr.take (m:=(Qu l).length) (Jnz l);rw[Nat.mul_one,Xvq,<-Jdj]at h;have:=Jnz l;rw[<-Km];exact⟨A,(Qu l).length,by rw[<-Km],by rw[<-Km];exact Nat.le_refl _,by rw[<-Km];omega,by grind [Km]⟩
theorem Gx(hr:Rd w 1 A l.length (Nc l))(hc:l.length<=c)(hm:l.length<=4611686018427387904):
  Ret Tryz.prog 49 [.slice A l.length c] w λv w'=>v=.slice A (Jj (val l)).length (Jj (val l)).length/\w'=w:=by
 refine Jz Tryz.func49 Tryz.ntmps49 rfl kr rfl ?_;refine ρ ?_;have y:∀ k,k<=l.length->Qu (l.take k)=Qu l->Qu (l.take k)=l.take k->k=(Jj (val l)).length:=λk u U O=>by grind [Km,List.length_take]
 refine Js (λk=>[(0,.slice A l.length c),(3,.int .i64 ((k:Nat):Int))]) (λk w'=>w'=w/\k<=l.length/\Qu (l.take k)=Qu l) (λk=>k) l.length sB ⟨rfl,Nat.le_refl _,by rw[List.take_length]⟩ ?_;rintro k w' ⟨rfl,u,hn⟩;have done:∀ k,k=(Jj (val l)).length->k<=l.length->(Value.slice A k k)=.slice A (Jj (val l)).length (Jj (val l)).length:=λk h _=>by rw[h]
 refine ρ ?_;refine ki 8 (λh=>?_) (λh=>?_)
 .have J:0<k:=by have:=oT h;omega
  have j:k-1<l.length:=om
  have B:l.take k=l.take (k-1)++[l.getD (k-1) 0]:=by grind [List.take_succ_eq_append_getElem,List.getD,List.getElem?_eq_getElem]
  refine ρ ?_;refine ix (k-1) hr j ?_;refine ρ ?_;refine ld (hr.cell (Qm j)) ?_;refine ρ ?_;refine ci (λh0=>?_) (λh0=>?_)
  .have G:l.getD (k-1) 0=0:=by
    have:=Ug h0;apply UInt32.toNat_inj.1
    grind
   refine ρ ?_;refine Jp (k-1) sO ⟨rfl,om,?_⟩ om;rw[<-hn,B,G,Jnx]
  have G:l.getD (k-1) 0≠0:=by
   have:=Uj h0;intro e;rw[e]at this;exact this rfl
  have i:=y k u hn (by grind [Qcb]);refine ρ ?_;refine Jzv Jqs 0 k k A k k rfl rfl rfl rfl rfl ⟨_,_,rfl,rfl⟩ ⟨_,_,rfl,rfl⟩ (.inr (by simp)) (Nat.zero_le _) (Nat.le_refl _) om (cut0 A _ _) rfl rfl rfl ?_;refine ρ ?_;exact Jq ⟨done k i u,rfl⟩
 have D:k=0:=by have:=oF h;omega
 subst D;have i:=y 0 u hn rfl;refine ρ ?_;refine Jzv Jqs 0 0 0 A 0 0 rfl rfl rfl rfl rfl ⟨_,_,rfl,rfl⟩ ⟨_,_,rfl,rfl⟩ (.inr (by simp)) (Nat.zero_le _) (Nat.le_refl _) om (cut0 A _ _) rfl rfl rfl ?_;refine ρ ?_;exact Jq ⟨done 0 i u,rfl⟩
theorem Za(h:NatV w v n): Ret Tryz.prog 49 [v] w λv' w'=>(∃ A,v'=.slice A (Jj n).length (Jj n).length/\Rd w 1 A (Jj n).length (Nc (Jj n)))/\w'=w:=by
 obtain⟨A,c,rfl,u,j,i⟩:=h;refine(Gx i u j).mono ?_;grind [Zs]
theorem Zv(n:Nat): IntKind.u32.wrap (n:Int)=((UInt32.ofNat n).toNat:Int):=by
 rw[UInt32.toNat_ofNat',IntKind.wrap_u32];omega
theorem Jnw(n:Nat): IntKind.u32.wrap ((n:Int).fdiv (2^min (32:Int).toNat IntKind.u64.bits))=((UInt32.ofNat (n / 4294967296)).toNat:Int):=by
 have e:(2:Int)^min (32:Int).toNat IntKind.u64.bits=((4294967296:Nat):Int):=by decide
 rw[e,Int.fdiv_eq_ediv_of_nonneg _ (Int.natCast_nonneg _),UInt32.toNat_ofNat',IntKind.wrap_u32];omega
theorem Jnp(n:Nat)(h:n<18446744073709551616): val [UInt32.ofNat n,UInt32.ofNat (n / 4294967296)]=n:=by grind [val,UInt32.toNat_ofNat']
theorem Qpf(n:Nat)(h:n<18446744073709551616)(w:World): Ret Tryz.prog 21 [.int .u64 (n:Int)] w λv w'=>NatV w' v n/\Ext w w':=by
 refine Jz Tryz.func21 Tryz.ntmps21 rfl kr rfl ?_;refine ρ ?_;refine Zk rfl rfl (by decide) rfl ?_;refine ρ ?_;refine bsl (bsN _ _) ?_;intro w1 b j y i;rw[Zv,Jnw]at i;have u:Rd w1 1 (some ⟨b,0,none⟩) 2 (Nc [UInt32.ofNat n,UInt32.ofNat (n / 4294967296)]):=i.rd rfl;refine ρ ?_;refine cl (Gx (l:=[UInt32.ofNat n,UInt32.ofNat (n / 4294967296)]) (c:=2) u (Nat.le_refl _) (by simp)) ?_;rintro v w2 ⟨rfl,rfl⟩;have:=Kl u (by simp);rw[Jnp n h]at this ⊢;refine ρ ?_;exact Jq ⟨this,j⟩
def sgn(a b:Int): Int:=if a<b then -1 else if b<a then 1 else 0
theorem Qqz(x:Int)(w:World): Ret Tryz.prog 114 [.int .i64 x] w λv w'=>v=.bool false/\w'=w:=by
 refine Jz Tryz.func114 Tryz.ntmps114 rfl kr rfl ?_;refine ρ ?_;refine Jq ⟨?_,rfl⟩;simp
theorem Jll(x y:Int)(w:World): Ret Tryz.prog 59 [.int .i64 x,.int .i64 y] w λv w'=>v=.int .i64 (sgn x y)/\w'=w:=by
 refine Jz Tryz.func59 Tryz.ntmps59 rfl kr rfl ?_;refine ρ ?_;refine cl (Qqz x w) ?_;rintro v w' ⟨rfl,rfl⟩;refine ρ ?_;refine cl (Qqz y w') ?_;rintro v i ⟨rfl,rfl⟩;refine ρ ?_;refine ci (λh=>?_) (λh=>?_)
 .refine ρ ?_;refine Jq ⟨?_,rfl⟩;grind [sgn]
 refine ρ ?_;refine ci (λj=>?_) (λj=>?_)
 .refine ρ ?_;refine Jq ⟨?_,rfl⟩;grind [sgn]
 refine ρ ?_;refine Jq ⟨?_,rfl⟩;grind [sgn]
theorem Qqx(x:Int)(w:World): Ret Tryz.prog 115 [.int .u32 x] w λv w'=>v=.bool false/\w'=w:=by
 refine Jz Tryz.func115 Tryz.ntmps115 rfl kr rfl ?_;refine ρ ?_;refine Jq ⟨?_,rfl⟩;simp
theorem Xxm(x y:Int)(w:World): Ret Tryz.prog 60 [.int .u32 x,.int .u32 y] w λv w'=>v=.int .i64 (sgn x y)/\w'=w:=by
 refine Jz Tryz.func60 Tryz.ntmps60 rfl kr rfl ?_;refine ρ ?_;refine cl (Qqx x w) ?_;rintro v w' ⟨rfl,rfl⟩;refine ρ ?_;refine cl (Qqx y w') ?_;rintro v i ⟨rfl,rfl⟩;refine ρ ?_;refine ci (λh=>?_) (λh=>?_)
 .refine ρ ?_;refine Jq ⟨?_,rfl⟩;grind [sgn]
 refine ρ ?_;refine ci (λj=>?_) (λj=>?_)
 .refine ρ ?_;refine Jq ⟨?_,rfl⟩;grind [sgn]
 refine ρ ?_;refine Jq ⟨?_,rfl⟩;grind [sgn]
theorem Qxb(x:Int)(w:World): Ret Tryz.prog 248 [.int .i64 x] w λv w'=>v=.bool false/\w'=w:=by
 refine Jz Tryz.func248 Tryz.ntmps248 rfl kr rfl ?_;refine ρ ?_;refine Jq ⟨?_,rfl⟩;simp
theorem Xxn(x y:Int)(w:World): Ret Tryz.prog 233 [.int .i64 x,.int .i64 y] w λv w'=>v=.int .i64 (sgn x y)/\w'=w:=by
 refine Jz Tryz.func233 Tryz.ntmps233 rfl kr rfl ?_;refine ρ ?_;refine cl (Qxb x w) ?_;rintro v w' ⟨rfl,rfl⟩;refine ρ ?_;refine cl (Qxb y w') ?_;rintro v i ⟨rfl,rfl⟩;refine ρ ?_;refine ci (λh=>?_) (λh=>?_)
 .refine ρ ?_;refine Jq ⟨?_,rfl⟩;grind [sgn]
 refine ρ ?_;refine ci (λj=>?_) (λj=>?_)
 .refine ρ ?_;refine Jq ⟨?_,rfl⟩;grind [sgn]
 refine ρ ?_;refine Jq ⟨?_,rfl⟩;grind [sgn]
theorem Jrg(n m:Nat): sgn (n:Int) (m:Int)=Vt n m:=by grind [sgn,Vt]
theorem Qbx(h:((a.toNat:Int) != (b.toNat:Int))=false): a=b:=by grind [UInt32.toNat_inj.1]
theorem Qbw(h:((a.toNat:Int) != (b.toNat:Int))=true): a.toNat≠b.toNat:=by grind
theorem Jxs(hv:NatV w v n)(hu:NatV w u m): Ret Tryz.prog 25 [v,u] w λr w'=>r=.int .i64 (Vt n m)/\Ext w w':=by
 have a1:=hv;have a2:=hu;obtain⟨_,_,_,_,a7,_⟩:=a1;obtain⟨_,_,_,_,a8,_⟩:=a2;refine Jz Tryz.func25 Tryz.ntmps25 rfl kr rfl ?_;refine ρ ?_;refine cl (Za hv) ?_;rintro v' w' ⟨⟨A,rfl,ha⟩,rfl⟩;refine ρ ?_;refine cl (Za hu) ?_;rintro u' Z ⟨⟨B,rfl,hb⟩,rfl⟩;refine ρ ?_;refine ci (λh=>?_) (λh=>?_)
 .refine ρ ?_;refine cl (Jll _ _ _) ?_;rintro t w1 ⟨rfl,rfl⟩;refine ρ ?_;refine Jq ⟨?_,Ext.refl _⟩;grind [Jrg,Jj,Vt,Nat.lt_or_gt_of_ne,Jgt]
 have a5:(Jj n).length=(Jj m).length:=by grind
 refine ρ ?_;refine Js (λk=>[(0,.slice A (Jj n).length (Jj n).length),(1,.slice B (Jj m).length (Jj m).length),(5,.int .i64 ((k:Nat)-1:Int))]) (λk w'=>Ext Z w'/\k<=(Jj n).length/\(Jj n).drop k=(Jj m).drop k) (λk=>k) (Jj n).length sB
  ⟨Ext.refl _,Nat.le_refl _,by grind⟩ ?_
 rintro k w1 ⟨hx,hk,hd⟩;refine ρ ?_;refine ci (λh=>?_) (λh=>?_)
 .have a4:0<k:=by have:=oT h;omega
  have D:k-1<(Jj n).length:=om
  have y:k-1<(Jj m).length:=om
  have j:=hx.trans ((Ext.refl w1).drew);have U:=ha.ext j;have J:=hb.ext j;refine ρ ?_;refine dr [(0,0),(0,1),(0,2),(0,3),(0,4),(0,5),(0,6),(0,7),(0,8)] kr ?_;refine ρd ?_;refine dix (k-1) U D ?_;refine ρd ?_;refine dld (U.cell (Qm D)) ?_;refine ρd ?_;refine dix (k-1) J y ?_;refine ρd ?_;refine dld (J.cell (Qm y)) ?_;refine ρd ?_;refine ρ ?_;refine ci (λh=>?_) (λh=>?_)
  .have a6:=Qbw h;have i:=j.trans ((Ext.refl w1.drew).drew);have O:=ha.ext i;have G:=hb.ext i;refine ρ ?_;refine dr [(0,0),(0,1),(0,2),(0,3),(0,4),(0,5),(0,6),(0,7),(1,8),(0,9)] kr ?_;refine ρd ?_;refine dix (k-1) O D ?_;refine ρd ?_;refine dld (O.cell (Qm D)) ?_;refine ρd ?_;refine dix (k-1) G y ?_;refine ρd ?_;refine dld (G.cell (Qm y)) ?_;refine ρd ?_;refine dcl (Xxm _ _ _) ?_;rintro t w2 ⟨rfl,rfl⟩;refine⟨Ext.refl _,?_⟩;refine ρd ?_;refine ρ ?_;refine Jq ⟨?_,i⟩;grind [Jrg,Vt,Jj,Nat.lt_or_gt_of_ne,Qbs,Zs]
  have he:=Qbx h;refine ρ ?_;refine Jp (k-1) sO ⟨j,om,?_⟩ om;grind [List.drop_eq_getElem_cons,Jj,List.getD,List.getElem?_eq_getElem]
 have a3:k=0:=by have:=oF h;omega
 subst a3;have:n=m:=by grind [Zs,val]
 subst this;refine ρ ?_;refine Jq ⟨?_,hx⟩;simp[Vt]
end Go.Proofs.YtebiphhfkdbpfaaGreatDoor
namespace Go.Wk
open Go.RowKit
variable {c e m t t2:Nat}
section
variable {P:Program} {n:Nat} {al:AL} {w:World} {Q:Exit->Act->World->Prop} {ops:Array Oper} {rest:List Oper}
variable {d ty:Nat} {op:Op} {pos:String} {aft:Array Edge} {tt:TT}
theorem snil[h:Tab P tt]{x:Operand}{k:TK}{A:Option Addr}(kk:WL P n ops Q rest ((d,.bool A.isNone)::al) w)(ht:tk tt t=some k:=by rfl)(hk:k.desc=.slice e:=by rfl)(hx:ev al x=some (.slice A m c):=by rfl)(hd:Nat.blt d n=true:=by rfl): WL P n ops Q (⟨some d,.binOp .eql t x (.const (.slice none 0 0)) t2,ty,pos,aft,none⟩::rest) al w :=
 wop hd (λa j=>by
  have i:=(Gp h.ok ht hk rfl).1;have u:a.eval (.const (.slice none 0 0))=.slice none 0 0:=rfl;simp[execOp,j.ev hx,u,eqGuard,binOp,run_equal_slice_nil w t e A m c i]) kk
end
end Go.Wk
namespace Go.Proofs.YtebiphhfkdbpfaaGreatDoor
open Go.RowKit Pl Go.Wk
attribute [local irreducible] WC WL QX WD WDB
theorem EB: ElT Tryz.prog 27 4 1 1 (.bool false):=⟨Tryz.underlying27,info_parts kr,rfl,by decide⟩
theorem EI: ElT Tryz.prog 22 3 1 8 (.int .i64 0):=⟨Tryz.underlying22,info_parts kr,rfl,by decide⟩
theorem Xkf(w:World): (Instr.buildSlice 85 0 #[]).run Tryz.prog w=.ok (.slice (some ⟨w.heap.size,0,none⟩) 0 0) (w.alloc (.cells ([]:List Value).toArray 102)):=kr
theorem Qvd(w:World): (Instr.buildSlice 40 0 #[]).run Tryz.prog w=.ok (.slice (some ⟨w.heap.size,0,none⟩) 0 0) (w.alloc (.cells ([]:List Value).toArray 63)):=kr
theorem Xzr{A:Option Addr}{n c:Nat}{cs:List Value}{w:World}(hr:Rd w 1 A n cs)(h1:∀ u∈cs,u.oneCell'=true)(hb:n*4<=140737488355328):
  Ret Tryz.prog 149 [.slice A n c] w λv w'=>(∃ A' c',v=.slice A' n c'/\n<=c'/\Rd w' 1 A' n cs)/\Ext w w':=by
 refine Jz Tryz.func149 Tryz.ntmps149 rfl kr rfl ?_;refine ρ ?_;refine snil ?_;refine ρ ?_;refine ci (λh=>?_) (λh=>?_)
 .have J:A=none:=by simpa using h
  subst J;have hn:n=0:=by
   rcases Nat.eq_zero_or_pos n with h0|h0
   .exact h0
   obtain⟨ad,O,_⟩:=hr.isome h0 om;cases O
  subst hn;refine ρ ?_;exact Jq ⟨⟨none,0,rfl,Nat.le_refl _,hr⟩,Ext.refl w⟩
 refine ρ ?_;refine bsl Qvd ?_;intro w1 b j G D;refine ρ ?_;refine apo j EN (D.own (n:=0) G rfl (Nat.zero_le _)) (hr.ext j) h1 (by unfold maxLen;omega) om ?_;intro v2 w2 i B _ _;obtain⟨Z,U,rfl,y,_⟩:=Jv i;refine ρ ?_;rw[Nat.zero_add]at i y ⊢;exact Jq ⟨⟨Z,U,rfl,y,Rd.own i⟩,B⟩
open Go.RowKit Pl Go.Wk
variable {a n:Nat}{v:Value}{w:World}
theorem Qjj(hv:NatV w v n)(hs:(Jj n).length<=1000): Ret Tryz.prog 73 [v] w λr w'=>NatV w' r n/\Ext w w':=by
 refine Jz Tryz.func73 Tryz.ntmps73 rfl kr rfl ?_;refine ρ ?_;refine cl (Za hv) ?_;rintro i w' ⟨⟨A,rfl,B⟩,rfl⟩;refine ρ ?_;refine cl (Xzr B (Jzr _) om) ?_;rintro i w1 ⟨⟨G,D,rfl,y,u⟩,j⟩;refine ρ ?_;exact Jq ⟨⟨G,D,rfl,y,om,u⟩,j⟩
theorem Qa(h:n<18446744073709551616): (Jj n).length<=2:=by grind [Nat.lt_or_ge,Jj,limbs_0,Jbk,Nat.pow_le_pow_right]
theorem Qmd(k:Nat)(hk:k<2)(h:a<4294967296^k)(c:UInt32): bits .or .u64 (a:Int) (IntKind.u64.wrap (IntKind.u64.wrap (c.toNat:Int)*2^min (32*(k:Int)).toNat IntKind.u64.bits))=((a+4294967296^k*c.toNat:Nat):Int):=by
 have D:c.toNat<4294967296:=c.toNat_lt;have j:IntKind.u64.wrap (c.toNat:Int)=(c.toNat:Int):=by rw[IntKind.wrap_u64];omega
 rw[j];match k,hk with
 | 0,_=>
  have u:a=0:=by simpa using h
  subst u;have i:(2:Int)^min (32*((0:Nat):Int)).toNat IntKind.u64.bits=1:=by decide
  rw[i,Int.mul_one,j];have:=u64_or_nat 0 c.toNat om om;grind
 | 1,_=>
  have i:(2:Int)^min (32*((1:Nat):Int)).toNat IntKind.u64.bits=4294967296:=by decide
  have B:IntKind.u64.wrap ((c.toNat:Int)*4294967296)=((c.toNat*4294967296:Nat):Int):=by rw[IntKind.wrap_u64];omega
  have y:a<4294967296:=by simpa using h
  rw[i,B,u64_or_nat _ _ om om];have:=nat_join 32 (c.toNat*4294967296) a (by simp) y;grind
theorem Jgj(hv:NatV w v n)(h:n<18446744073709551616): Ret Tryz.prog 105 [v] w λr w'=>r=.tuple #[.int .u64 (n:Int),.bool true]/\w'=w:=by
 have J:=Qa h;refine Jz Tryz.func105 Tryz.ntmps105 rfl kr rfl ?_;refine ρ ?_;refine cl (Za hv) ?_;rintro G w' ⟨⟨A,rfl,B⟩,rfl⟩;refine ρ ?_;refine Jnl rfl (dF om) ?_;refine ρ ?_;refine Js (λk=>[(4,.int .u64 ((val ((Jj n).take k):Nat):Int)),(0,.slice A (Jj n).length (Jj n).length),(12,.int .i64 ((Jj n).length:Int)),(13,.int .i64 ((k:Nat):Int))]) (λk w1=>w1=w'/\k<=(Jj n).length) (λk=>(Jj n).length-k) 0 sB ⟨rfl,Nat.zero_le _⟩ ?_;rintro k w1 ⟨rfl,O⟩;refine ρ ?_;refine ci (λh=>?_) (λh=>?_)
 .have i:k<(Jj n).length:=by have:=oT h;omega
  refine ρ ?_;refine ix k B i ?_;refine ρ ?_;refine ld (B.cell (Qm i)) ?_;refine ρ ?_;refine Jzw rfl rfl om rfl ?_;refine ρ ?_;have j:=Gq ((Jj n).take k);have u:((Jj n).take k).length=k:=by rw[List.length_take];omega
  rw[u]at j;have D:(Jj n).take (k+1)=(Jj n).take k++[(Jj n).getD k 0]:=by grind [List.take_succ_eq_append_getElem,List.getD,List.getElem?_eq_getElem]
  refine Jp (k+1) (Sub.cons (congrArg (λz=>some (Value.int .u64 z)) ?_) sB) ⟨rfl,om⟩ om;grind [Qmd,Xa,val]
 have y:k=(Jj n).length:=by have:=oF h;omega
 subst y;refine ρ ?_;refine Xb ⟨?_,rfl⟩;rw[List.take_length,Zs]
open Go.RowKit Pl Go.Wk
variable {a b os:List UInt32}{c i m n s x y:Nat}{u v:Value}{w:World}
theorem Vw(z:Value)(n:Nat): (madeCells #[z] n).toList=List.replicate n z:=by
 unfold madeCells;apply List.ext_getElem
 repeat grind
theorem Jqh(n:Nat): List.replicate n (Value.int .u32 0)=Nc (List.replicate n 0):=by simp[Nc]
theorem Yc(l:List UInt32)(i:Nat)(c:UInt32): (Nc l).set i (.int .u32 (c.toNat:Int))=Nc (l.set i c):=by simp[Nc,List.map_set]
theorem Xvg(hx:x<4294967296)(hc:c<=1): IntKind.u64.wrap ((c:Int)+IntKind.u64.wrap (x:Int))=((c+x:Nat):Int):=by
 simp only[IntKind.wrap_u64];omega
theorem Jqv(n:Nat): (n:Int).fdiv (2^min (32:Int).toNat IntKind.u64.bits)=((n / 4294967296:Nat):Int):=by
 have e:(2:Int)^min (32:Int).toNat IntKind.u64.bits=((4294967296:Nat):Int):=by decide
 grind
def AddInv(a b:List UInt32)(i c:Nat)(os:List UInt32): Prop:=os.length=i/\c<=1/\val os+4294967296^i*c=val (a.take i)+val (b.take i)
theorem Zr: val (a.take (i+1))=val (a.take i)+4294967296^i*(a.getD i 0).toNat:=by
 rcases Nat.lt_or_ge i a.length with h|h
 .grind [List.take_succ_eq_append_getElem,List.getD,List.getElem?_eq_getElem,Xa,List.length_take,Nat.min_eq_left,val]
 rw[List.take_of_length_le om,List.take_of_length_le h];have:a.getD i 0=0:=by grind
 rw[this];simp
theorem AddInv.step(h:AddInv a b i c os)(hs:s=c+(a.getD i 0).toNat+(b.getD i 0).toNat): AddInv a b (i+1) (s / 4294967296) (os++[UInt32.ofNat s]):=by
 obtain⟨j,D,B⟩:=h;have y:(a.getD i 0).toNat<4294967296:=(a.getD i 0).toNat_lt;have u:(b.getD i 0).toNat<4294967296:=(b.getD i 0).toNat_lt;refine⟨by simp[j],om,?_⟩;rw[Xa,j,Zr,Zr];simp only[val,UInt32.toNat_ofNat'];have e:4294967296^(i+1)*(s / 4294967296)=4294967296^i*(4294967296*(s / 4294967296)):=by grind
 rw[e];have G:4294967296^i*(s % 2^32+4294967296*0)+4294967296^i*(4294967296*(s / 4294967296))=4294967296^i*s:=by
  rw[<-Nat.mul_add];congr 1;omega
 grind
theorem Jyd(os:List UInt32)(r:Nat)(c:UInt32): (os++List.replicate (r+1) 0).set os.length c=(os++[c])++List.replicate r 0:=by grind
theorem Qvz(hs:s<9223372036854775808)(hy:y<4294967296): IntKind.u64.wrap ((s:Int)+IntKind.u64.wrap (y:Int))=((s+y:Nat):Int):=by
 simp only[IntKind.wrap_u64];omega
abbrev Xd(w:World)(base:Nat)(v:Value)(l:List UInt32): Prop:=w.ownsRow base 63 1 v l.length (Nc l)
def Fresh(w:World)(v:Value): Prop:=∀ ad n c,v=.slice (some ad) n c->w.heap.size<=ad.block
theorem NatV.grown{w w':World}{v:Value}{n:Nat}{g:Option Nat}(h:NatV w v n)(hg:w.grownBy w' g)(hf:∀ ad m c,v=.slice (some ad) m c->some ad.block≠g): NatV w' v n:=by
 obtain⟨A,c,rfl,u,j,i⟩:=h;exact⟨A,c,rfl,u,j,Rd.grown i hg (λad e=>Ne.symm (hf ad _ _ (by rw[e])))⟩
theorem Jgk(hv:NatV w v n)(hu:NatV w u m)(hln:(Jj n).length<=1000)(hlm:(Jj m).length<=1000): Ret Tryz.prog 26 [v,u] w λr w'=>NatV w' r (n+m)/\Fresh w r/\Ext w w':=by
 refine Jz Tryz.func26 Tryz.ntmps26 rfl kr rfl ?_;refine ρ ?_;refine cl (Za hv) ?_;rintro v' w' ⟨⟨A,rfl,ha⟩,rfl⟩;refine ρ ?_;refine cl (Za hu) ?_;rintro u' a2 ⟨⟨B,rfl,hb⟩,rfl⟩;refine ρ ?_;refine Xn (λs:(Option Addr×Nat)×(Option Addr×Nat)=>[(0,.slice s.1.1 (Jj s.1.2).length (Jj s.1.2).length),(1,.slice s.2.1 (Jj s.2.2).length (Jj s.2.2).length)])
  (λs w'=>w'=a2/\(Jj s.2.2).length<=(Jj s.1.2).length/\s.1.2+s.2.2=n+m/\Rd a2 1 s.1.1 (Jj s.1.2).length (Nc (Jj s.1.2))/\Rd a2 1 s.2.1 (Jj s.2.2).length (Nc (Jj s.2.2))/\(Jj s.1.2).length<=1000) ?_ ?_
 .refine ci (λh=>?_) (λh=>?_)
  .refine ρ ?_;exact Jg ((B,m),(A,n)) sB ⟨rfl,by grind,Nat.add_comm _ _,hb,ha,hlm⟩
  refine ρ ?_;exact Jg ((A,n),(B,m)) sB ⟨rfl,by grind,rfl,ha,hb,hln⟩
 rintro⟨⟨A,x⟩,⟨B,y⟩⟩ w' ⟨rfl,ai,Z,ha,hb,hl⟩;simp only at ai Z ha hb hl;generalize hL:(Jj x).length=L at *
 refine ρ ?_;refine mkn EN (L+1) om (by unfold maxLen;omega) ?_;intro w1 O ac an hO;have a7:Xd w1 w'.heap.size (.slice O (L+1) (L+1)) ([]++List.replicate (L+1) 0):=by
  have e:(madeCells (Value.int .u32 0).cells ((L+1)*1)).toList=Nc (List.replicate (L+1) 0):=by rw[Nat.mul_one,<-Jqh];exact Vw _ _
  grind
 refine ρ ?_;refine Xf (fun (k c:Nat) (j:List UInt32)=>[(0,.slice A L L),(1,.slice B (Jj y).length (Jj y).length),(5,.slice O (L+1) (L+1)),(6,.int .u64 (c:Int)),(24,.int .i64 (L:Int)),(25,.int .i64 (k:Int))])
  (λk c j w2=>Ext w' w2/\k<=L/\AddInv (Jj x) (Jj y) k c j/\Xd w2 w'.heap.size (.slice O (L+1) (L+1)) (j++List.replicate (L+1-k) 0)) (λk _ _=>L-k) 0 0 [] sB
  ⟨ac,Nat.zero_le _,⟨rfl,om,rfl⟩,a7⟩ ?_
 rintro k c j w2 ⟨U,hk,hI,a4⟩;have ae:=hI.1;have am:=hI.2.1;have a9:=ha.ext U;have a8:=hb.ext U;refine ρ ?_;refine ci (λh=>?_) (λh=>?_)
 .have ah:k<L:=by have:=oT h;omega
  have ag:((Jj x).getD k 0).toNat<4294967296:=((Jj x).getD k 0).toNat_lt;have af:((Jj y).getD k 0).toNat<4294967296:=((Jj y).getD k 0).toNat_lt;have i:(j++List.replicate (L+1-k) (0:UInt32)).length=L+1:=by simp;omega
  have store:∀ s:Nat,w2.cell? (adr O k)=(Nc (j++List.replicate (L+1-k) 0))[k]?/\w2.frozen? (adr O k)=false /\
    Xd (w2.setCell (adr O k) (.int .u32 ((UInt32.ofNat s).toNat:Int))) w'.heap.size (.slice O (L+1) (L+1)) ((j++[UInt32.ofNat s])++List.replicate (L+1-(k+1)) 0)/\Ext w' (w2.setCell (adr O k) (.int .u32 ((UInt32.ofNat s).toNat:Int))):=λs=>by
   have G:=a4;rw[Xd,i]at G;obtain⟨s1,s2,J,s4,s5⟩:=Xp G (q:=k) om (.int .u32 ((UInt32.ofNat s).toNat:Int));refine⟨s1,s2,?_,U.setCell s4 _⟩;rw[Yc,show L+1-k=(L-k)+1 by omega]at J;have e:=Jyd j (L-k) (UInt32.ofNat s);grind
  have D:(Nc (j++List.replicate (L+1-k) 0))[k]?=some (.int .u32 (((j++List.replicate (L+1-k) 0).getD k 0).toNat:Int)):=Qm (by rw[i];omega);have a5:Rd w2 1 O (L+1) (Nc (j++List.replicate (L+1-k) 0)):=by have h5:=a4;rw[Xd,i]at h5;exact Rd.own h5
  refine ρ ?_;refine ix k a9 ah ?_;refine ρ ?_;refine ld (a9.cell (Qm (show k<(Jj x).length by omega))) ?_;refine ρ ?_;rw[Xvg ag am];refine ci (λh=>?_) (λh=>?_)
  .have a1:k<(Jj y).length:=by have:=oT h;omega
   refine ρ ?_;refine ix k a8 a1 ?_;refine ρ ?_;refine ld (a8.cell (Qm a1)) ?_;refine ρ ?_;refine ix k a5 om ?_;obtain⟨s1,s2,J,s4⟩:=store (c+((Jj x).getD k 0).toNat+((Jj y).getD k 0).toNat);rw[Qvz om af,Zv];refine sto (s1.trans D) s2 ?_;refine ρ ?_;refine Zk rfl rfl (by decide) rfl ?_;refine ρ ?_;refine Qn (k+1) ((c+((Jj x).getD k 0).toNat+((Jj y).getD k 0).toNat) / 4294967296) (j++[UInt32.ofNat (c+((Jj x).getD k 0).toNat+((Jj y).getD k 0).toNat)]) ?_ ⟨s4,om,hI.step rfl,J⟩ om;rw[Jqv];exact sB
  have ao:(Jj y).length<=k:=by have:=oF h;omega
  have aa:(Jj y).getD k 0=0:=by grind
  refine ρ ?_;refine ix k a5 om ?_;obtain⟨s1,s2,J,s4⟩:=store (c+((Jj x).getD k 0).toNat);rw[Zv];refine sto (s1.trans D) s2 ?_;refine ρ ?_;refine Zk rfl rfl (by decide) rfl ?_;refine ρ ?_;refine Qn (k+1) ((c+((Jj x).getD k 0).toNat) / 4294967296) (j++[UInt32.ofNat (c+((Jj x).getD k 0).toNat)]) ?_ ⟨s4,om,hI.step (by rw[aa];rfl),J⟩ om;rw[Jqv];exact sB
 have ak:k=L:=by have:=oF h;omega
 subst ak;have i:(j++List.replicate (k+1-k) (0:UInt32)).length=k+1:=by simp;omega
 have G:=a4;rw[Xd,i]at G;have D:(Nc (j++List.replicate (k+1-k) 0))[k]?=some (.int .u32 (((j++List.replicate (k+1-k) 0).getD k 0).toNat:Int)):=Qm (by rw[i];omega);obtain⟨s1,s2,J,s4,s5⟩:=Xp G (q:=k) om (.int .u32 ((UInt32.ofNat c).toNat:Int));rw[Yc,show k+1-k=0+1 by omega]at J;have e:=Jyd j 0 (UInt32.ofNat c);rw[ae,List.replicate_zero,List.append_nil]at e;rw[e]at J;have ab:=U.setCell s4 (.int .u32 ((UInt32.ofNat c).toNat:Int));refine ρ ?_;refine ix k (Rd.own G) om ?_;rw[Zv];refine sto (s1.trans D) s2 ?_;refine ρ ?_;have aj:(j++[UInt32.ofNat c]).length=k+1:=by simp;omega
 have a3:=Rd.own J;have a6:val (j++[UInt32.ofNat c])=n+m:=by
  obtain⟨i1,i2,i3⟩:=hI;rw[Xa,i1];simp only[val,UInt32.toNat_ofNat'];rw[<-Z,<-Zs x,<-Zs y,<-List.take_of_length_le (show(Jj x).length<=k by omega),<-List.take_of_length_le (show(Jj y).length<=k by omega),<-i3,show c % 2^32+4294967296*0=c by omega]
 rw[<-aj]at a3 ⊢;refine cl (Gx a3 (Nat.le_refl _) om) ?_;rintro t w4 ⟨rfl,rfl⟩;have:=Kl a3 om;rw[a6]at this ⊢;refine ρ ?_;exact Jq ⟨this,λad _ _ e=>hO ad (by injection e),ab⟩
theorem Qpj(hv:NatV w v n)(hu:NatV w u m)(hln:(Jj n).length<=1000)(hlm:(Jj m).length<=1000): Ret Tryz.prog 26 [v,u] w λr w'=>NatV w' r (n+m)/\Ext w w' :=
 (Jgk hv hu hln hlm).mono λ_ _ h=>⟨h.1,h.2.2⟩
open Go.RowKit Pl Go.Wk
variable {a b os:List UInt32}{c i m n s x y:Nat}
def dif(x c y:Nat): Nat:=(18446744073709551616+x-c-y) % 18446744073709551616
theorem Qdh(hx:x<4294967296)(hc:c<=1): IntKind.u64.wrap (IntKind.u64.wrap (x:Int)-(c:Int))=(dif x c 0:Int):=by
 unfold dif;simp only[IntKind.wrap_u64];omega
theorem Qdg(hx:x<4294967296)(hc:c<=1)(hy:y<4294967296): IntKind.u64.wrap ((dif x c 0:Int)-IntKind.u64.wrap (y:Int))=(dif x c y:Int):=by
 unfold dif;simp only[IntKind.wrap_u64];omega
theorem Jvz(n:Nat): (n:Int).fdiv (2^min (63:Int).toNat IntKind.u64.bits)=((n / 9223372036854775808:Nat):Int):=by
 have e:(2:Int)^min (63:Int).toNat IntKind.u64.bits=((9223372036854775808:Nat):Int):=by decide
 grind
theorem Jlc(hx:x<4294967296)(hc:c<=1)(hy:y<4294967296): dif x c y % 4294967296+y+c=x+4294967296*(dif x c y / 9223372036854775808)/\dif x c y / 9223372036854775808<=1:=by
 unfold dif;omega
def SubInv(a b:List UInt32)(i c:Nat)(os:List UInt32): Prop:=os.length=i/\c<=1/\val os+val (b.take i)=val (a.take i)+4294967296^i*c
theorem SubInv.step(h:SubInv a b i c os)(hs:s=dif (a.getD i 0).toNat c (b.getD i 0).toNat):
  SubInv a b (i+1) (s / 9223372036854775808) (os++[UInt32.ofNat s]):=by
 obtain⟨G,D,J⟩:=h;have B:(a.getD i 0).toNat<4294967296:=(a.getD i 0).toNat_lt;have y:(b.getD i 0).toNat<4294967296:=(b.getD i 0).toNat_lt;obtain⟨u,j⟩:=Jlc B D y;rw[<-hs]at u j;refine⟨by simp[G],j,?_⟩;grind [Xa,Zr,val,UInt32.toNat_ofNat',Nat.pow_succ,Nat.mul_assoc,Nat.mul_add]
theorem Qjh{v u:Value}{w:World}(hv:NatV w v n)(hu:NatV w u m)(hln:(Jj n).length<=1000):
  Ret Tryz.prog 143 [v,u] w λr w'=>(∃ x,r=.tuple #[x,.int .i64 (if n<m then 19 else 0)]/\NatV w' x (n-m)/\Fresh w x)/\Ext w w':=by
 refine Jz Tryz.func143 Tryz.ntmps143 rfl kr rfl ?_;refine ρ ?_;refine cl (Za hv) ?_;rintro v' w' ⟨⟨A,rfl,ha⟩,rfl⟩;refine ρ ?_;refine cl (Za hu) ?_;rintro u' ao ⟨⟨B,rfl,hb⟩,rfl⟩;have ah:(Jj m).length<=4611686018427387904:=by obtain⟨_,_,_,_,h,_⟩:=hu;exact h
 refine ρ ?_;refine cl (Jxs (n:=n) (m:=m) ⟨A,_,rfl,Nat.le_refl _,om,ha⟩ ⟨B,_,rfl,Nat.le_refl _,ah,hb⟩) ?_;rintro t w' ⟨rfl,j⟩;refine ρ ?_;refine ci (λh=>?_) (λh=>?_)
 .have U:n<m:=by
   have:=oT h;unfold Vt at this;grind
  refine ρ ?_;refine Xb ⟨⟨.slice none 0 0,?_,?_,λad _ _ e=>by cases e⟩,j⟩
  .rw[if_pos U]
  rw[show n-m=0 by omega];exact NatV.nil _
 have aj:m<=n:=by grind [Vt,Nat.lt_or_ge]
 have aq:(Jj m).length<=(Jj n).length:=by
  rcases Nat.lt_or_ge (Jj n).length (Jj m).length with h1|h1
  .have:=Jgt h1;omega
  exact h1
 have am:=ha.ext j;have ak:=hb.ext j;generalize hL:(Jj n).length=L at *
 refine ρ ?_;refine mkn EN L om (by unfold maxLen;omega) ?_;intro w1 O a2 ap hO;have an:=j.trans a2;have af:=j.size;have a8:Xd w1 w'.heap.size (.slice O L L) ([]++List.replicate L 0):=by
  have e:(madeCells (Value.int .u32 0).cells (L*1)).toList=Nc (List.replicate L 0):=by rw[Nat.mul_one,<-Jqh];exact Vw _ _
  grind
 refine ρ ?_;refine Xf (fun (k c:Nat) (i:List UInt32)=>[(0,.slice A L L),(1,.slice B (Jj m).length (Jj m).length),(6,.slice O L L),(7,.int .u64 (c:Int)),(22,.int .i64 (L:Int)),(23,.int .i64 (k:Int))])
  (λk c i w2=>Ext w' w2/\k<=L/\SubInv (Jj n) (Jj m) k c i/\Xd w2 w'.heap.size (.slice O L L) (i++List.replicate (L-k) 0)) (λk _ _=>L-k) 0 0 [] sB
  ⟨a2,Nat.zero_le _,⟨rfl,om,rfl⟩,a8⟩ ?_
 rintro k c i w2 ⟨G,hk,hI,a7⟩;have a5:=hI.1;have aa:=hI.2.1;have ac:=am.ext G;have ab:=ak.ext G;refine ρ ?_;refine ci (λh=>?_) (λh=>?_)
 .have U:k<L:=by have:=oT h;omega
  have a9:((Jj n).getD k 0).toNat<4294967296:=((Jj n).getD k 0).toNat_lt;have ag:((Jj m).getD k 0).toNat<4294967296:=((Jj m).getD k 0).toNat_lt;have y:(i++List.replicate (L-k) (0:UInt32)).length=L:=by simp;omega
  have store:∀ s:Nat,w2.cell? (adr O k)=(Nc (i++List.replicate (L-k) 0))[k]?/\w2.frozen? (adr O k)=false /\
    Xd (w2.setCell (adr O k) (.int .u32 ((UInt32.ofNat s).toNat:Int))) w'.heap.size (.slice O L L) ((i++[UInt32.ofNat s])++List.replicate (L-(k+1)) 0)/\Ext w' (w2.setCell (adr O k) (.int .u32 ((UInt32.ofNat s).toNat:Int))):=λs=>by
   have a6:=a7;rw[Xd,y]at a6;obtain⟨s1,s2,s3,Z,s5⟩:=Xp a6 (q:=k) om (.int .u32 ((UInt32.ofNat s).toNat:Int));refine⟨s1,s2,?_,G.setCell Z _⟩;rw[Yc,show L-k=(L-(k+1))+1 by omega]at s3;have e:=Jyd i (L-(k+1)) (UInt32.ofNat s);grind
  have D:(Nc (i++List.replicate (L-k) 0))[k]?=some (.int .u32 (((i++List.replicate (L-k) 0).getD k 0).toNat:Int)):=Qm (by rw[y];omega);have a1:Rd w2 1 O L (Nc (i++List.replicate (L-k) 0)):=by have h5:=a7;rw[Xd,y]at h5;exact Rd.own h5
  refine ρ ?_;refine ix k ac U ?_;refine ρ ?_;refine ld (ac.cell (Qm (show k<(Jj n).length by omega))) ?_;refine ρ ?_;rw[Qdh a9 aa];refine ci (λh=>?_) (λh=>?_)
  .have J:k<(Jj m).length:=by have:=oT h;omega
   refine ρ ?_;refine ix k ab J ?_;refine ρ ?_;refine ld (ab.cell (Qm J)) ?_;refine ρ ?_;refine ix k a1 om ?_;obtain⟨s1,s2,s3,Z⟩:=store (dif ((Jj n).getD k 0).toNat c ((Jj m).getD k 0).toNat);rw[Qdg a9 aa ag,Zv];refine sto (s1.trans D) s2 ?_;refine ρ ?_;refine Zk rfl rfl (by decide) rfl ?_;refine ρ ?_;refine Qn (k+1) (dif ((Jj n).getD k 0).toNat c ((Jj m).getD k 0).toNat / 9223372036854775808) (i++[UInt32.ofNat (dif ((Jj n).getD k 0).toNat c ((Jj m).getD k 0).toNat)]) ?_ ⟨Z,om,hI.step rfl,s3⟩ om;rw[Jvz];exact sB
  have aj:(Jj m).length<=k:=by have:=oF h;omega
  have ae:(Jj m).getD k 0=0:=by grind
  refine ρ ?_;refine ix k a1 om ?_;obtain⟨s1,s2,s3,Z⟩:=store (dif ((Jj n).getD k 0).toNat c 0);rw[Zv];refine sto (s1.trans D) s2 ?_;refine ρ ?_;refine Zk rfl rfl (by decide) rfl ?_;refine ρ ?_;refine Qn (k+1) (dif ((Jj n).getD k 0).toNat c 0 / 9223372036854775808) (i++[UInt32.ofNat (dif ((Jj n).getD k 0).toNat c 0)]) ?_ ⟨Z,om,hI.step (by rw[ae];rfl),s3⟩ om;rw[Jvz];exact sB
 have ai:k=L:=by have:=oF h;omega
 subst ai;have a4:Rd w2 1 O i.length (Nc i):=by
  have:=Rd.own (show w2.ownsRow w'.heap.size 63 1 (.slice O k k) k (Nc i) by grind);rw[a5];exact this
 have a3:val i=n-m:=by
  obtain⟨i1,i2,i3⟩:=hI;rw[List.take_of_length_le (show(Jj n).length<=k by omega),List.take_of_length_le (show(Jj m).length<=k by omega),Zs,Zs]at i3;have hv:=Gq i;rw[i1]at hv;rcases Nat.eq_zero_or_pos c with h0|h0
  repeat grind
 refine ρ ?_;rw[<-a5];refine cl (Gx a4 (Nat.le_refl _) om) ?_;rintro t w4 ⟨rfl,rfl⟩;have:=Kl a4 om;rw[a3]at this ⊢;refine ρ ?_;refine Xb ⟨⟨_,?_,this,λad _ _ e=>nL af (hO ad (by injection e))⟩,j.trans G⟩;rw[if_neg om]
end Go.Proofs.YtebiphhfkdbpfaaGreatDoor
namespace Go.Proofs.YtebiphhfkdbpfaaGreatDoor
namespace Pl
structure V where
 kind: Int
 num:Int
 str:ByteArray
def V.bytes(v:V): List UInt8:=v.str.data.toList
def V.cells(v:V): List Value:=[.int .i64 v.kind,.int .i64 v.num,.string v.str]
def V.val(v:V): Value:=.agg #[.int .i64 v.kind,.int .i64 v.num,.string v.str]
end Pl
open Go.RowKit Pl Go.Wk
attribute [local irreducible] WC WL QX WD WDB
def V0: V:=⟨0,0,⟨#[]⟩⟩
def Qw(r:List V): List Value:=r.flatMap V.cells
abbrev RdR(w:World)(A:Option Addr)(r:List V): Prop:=Rd w 3 A r.length (Qw r)
abbrev RdB(w:World)(A:Option Addr)(ds:List Bool): Prop:=Rd w 1 A ds.length (ds.map Value.bool)
theorem Jsb(r:List V): (Qw r).length=r.length*3:=by
 induction r with
 | nil=>rfl
 | cons v r ih=>simp only[Qw,List.flatMap_cons,List.length_append,V.cells,List.length_cons,List.length_nil]at ih ⊢;omega
theorem Jfj: ∀(r:List V) (i j:Nat),i<r.length->j<3->(Qw r)[i*3+j]?=(r.getD i V0).cells[j]?
 | [],i,j,h,_=>by simp at h
 | v::r,0,j,_,hj=>by
  simp only[Qw,List.flatMap_cons,Nat.zero_mul,Nat.zero_add,List.getD_cons_zero];grind [List.getElem?_append_left,V.cells]
 | v::r,i+1,j,h,hj=>by
  have ih:=Jfj r i j (by simpa using h) hj;grind [Qw,List.getD_cons_succ,List.getElem?_append_right,V.cells]
theorem RdR.cell{w:World}{A:Option Addr}{r:List V}(h:RdR w A r){i j:Nat}{u:Value}(hi:i<r.length)(hu:(r.getD i V0).cells[j]?=some u): w.cell? ((adr A (i*3)).add j)=some u:=by grind [List.getElem?_eq_some_iff.1,V.cells,Gh,Rd.cell,Jfj]
theorem RdB.cell{w:World}{A:Option Addr}{ds:List Bool}(h:RdB w A ds){i:Nat}(hi:i<ds.length): w.cell? (adr A i)=some (.bool (ds.getD i false)) :=
 Rd.cell h (by grind)
theorem V.one(v:V): ∀ u∈v.cells,u.oneCell'=true:=by
 intro u i;simp[V.cells]at i;rcases i with rfl|rfl|rfl<;>rfl
theorem Qgg(r:List V): ∀ u∈Qw r,u.oneCell'=true:=by
 intro u j;obtain⟨v,_,i⟩:=List.mem_flatMap.1 j;simp[V.cells]at i;rcases i with rfl|rfl|rfl<;>rfl
theorem Qgh(a b:List V): Qw (a++b)=Qw a++Qw b:=by simp[Qw]
def cmpV(a b:V): Int:=if a.kind≠b.kind then sgn a.kind b.kind else if a.num≠b.num then sgn a.num b.num else Lib.compareBytes a.bytes b.bytes
def neg(d:Bool)(c:Int): Int:=if d then -c else c
def Jf: List V->List V->List Bool->Int
 | [],[],_=>0
 | [],_::_,_=>-1
 | _::_,[],_=>1
 | x::a,y::b,ds=>if cmpV x y=0 then Jf a b (ds.drop 1) else neg (ds.getD 0 false) (cmpV x y)
theorem Xxp(a b:ByteArray)(w:World): Ret Tryz.prog 249 [.string a,.string b] w λv w'=>v=.int .i64 (Lib.compareBytes a.data.toList b.data.toList)/\w'=w:=by
 refine Jz Tryz.func249 Tryz.ntmps249 rfl kr rfl ?_;refine ρ ?_;refine wext (vs:=[.string a,.string b]) (v:=.int .i64 (Lib.compareBytes a.data.toList b.data.toList)) (w':=w) ?_ ?_
 .rw[run_callFunc_extern Tryz.func256 kr kr kr (e:=Extern.BytealgCompare.compare) kr,Lib.run_compareString];rfl
 refine ρ ?_;exact Jq ⟨rfl,rfl⟩
theorem Qdk(a b:ByteArray)(w:World): Ret Tryz.prog 234 [.string a,.string b] w λv w'=>v=.int .i64 (Lib.compareBytes a.data.toList b.data.toList)/\w'=w:=by
 refine Jz Tryz.func234 Tryz.ntmps234 rfl kr rfl ?_;refine ρ ?_;refine cl (Xxp a b w) ?_;rintro v w' ⟨rfl,rfl⟩;refine ρ ?_;exact Jq ⟨rfl,rfl⟩
theorem Jvp(a b:V)(w:World): Ret Tryz.prog 210 [a.val,b.val] w λr w'=>r=.int .i64 (cmpV a b)/\Ext w w':=by
 refine Jz Tryz.func210 Tryz.ntmps210 rfl kr rfl ?_;refine ρ ?_;refine bx ?_;intro w1 Z y O i;refine ρ ?_;refine bx ?_;intro w2 U u J j;have i:=i.ext u;have B:=y.trans u;refine ρ ?_;refine ld (i.at rfl) ?_;refine ρ ?_;refine ld (j.at rfl) ?_;refine ρ ?_;refine ci (λG=>?_) (λG=>?_)
 .refine ρ ?_;refine ld (i.at rfl) ?_;refine ρ ?_;refine ld (j.at rfl) ?_;refine ρ ?_;refine cl (Jll _ _ _) ?_;rintro t D ⟨rfl,rfl⟩;refine ρ ?_;refine Jq ⟨?_,B⟩;grind [cmpV]
 refine ρ ?_;refine ld (i.at rfl) ?_;refine ρ ?_;refine ld (j.at rfl) ?_;refine ρ ?_;refine ci (λhn=>?_) (λhn=>?_)
 .refine ρ ?_;refine ld (i.at rfl) ?_;refine ρ ?_;refine ld (j.at rfl) ?_;refine ρ ?_;refine cl (Xxn _ _ _) ?_;rintro t D ⟨rfl,rfl⟩;refine ρ ?_;refine Jq ⟨?_,B⟩;grind [cmpV]
 refine ρ ?_;refine ld (i.at rfl) ?_;refine ρ ?_;refine ld (j.at rfl) ?_;refine ρ ?_;refine cl (Qdk _ _ _) ?_;rintro t D ⟨rfl,rfl⟩;refine ρ ?_;refine Jq ⟨?_,B⟩;rw[cmpV,if_neg (by simpa using G),if_neg (by simpa using hn)];rfl
end Go.Proofs.YtebiphhfkdbpfaaGreatDoor
namespace Go.Proofs.YtebiphhfkdbpfaaGreatDoor
open Pl
variable {α β:Type}
structure PreC{α:Type}(f:α->α->Int): Prop where
 anti:∀ a b,f b a = - f a b
 trans:∀ a b c,f a b<=0->f b c<=0->f a c<=0
theorem PreC.refl{f:α->α->Int}(h:PreC f)(a:α): f a a=0:=by have:=h.anti a a;omega
structure Cmp{α:Type}(f:α->α->Int): Prop where
 anti:∀ a b,f b a = - f a b
 zero:∀ a b,f a b=0->a=b
 trans:∀ a b c,f a b<=0->f b c<=0->f a c<=0
theorem Cmp.pre{f:α->α->Int}(h:Cmp f)(g:β->α): PreC λa b=>f (g a) (g b):=⟨λa b=>h.anti _ _,λa b c=>h.trans _ _ _⟩
section
variable {α:Type} {f:α->α->Int}
theorem Cmp.refl(h:Cmp f)(a:α): f a a=0:=by have:=h.anti a a;omega
theorem Cmp.lt_le(h:Cmp f){a b c:α}(h1:f a b<0)(h2:f b c<=0): f a c<0:=by
 have i:=h.trans a b c om h2;rcases Int.lt_or_eq_of_le i with h4|h4
 .exact h4
 have:=h.zero _ _ h4;subst this;have:=h.anti a b;omega
theorem Cmp.le_lt(h:Cmp f){a b c:α}(h1:f a b<=0)(h2:f b c<0): f a c<0:=by
 have i:=h.trans a b c h1 om;rcases Int.lt_or_eq_of_le i with h4|h4
 .exact h4
 have:=h.zero _ _ h4;subst this;have:=h.anti a b;omega
theorem Cmp.lt_trans(h:Cmp f){a b c:α}(h1:f a b<0)(h2:f b c<0): f a c<0:=h.lt_le h1 om
theorem Cmp.tot(h:Cmp f)(a b:α): f a b<0∨a=b∨f b a<0:=by
 have i:=h.anti a b;rcases Int.lt_trichotomy (f a b) 0 with h2|h2|h2
 .exact .inl h2
 .exact .inr (.inl (h.zero _ _ h2))
 repeat grind
theorem Cmp.flip(h:Cmp f): Cmp λa b=>- f a b :=
 ⟨λa b=>by rw[h.anti a b],λa b h0=>h.zero a b om,λa b c j i=>by
  have B:=h.anti a b;have y:=h.anti b c;have u:=h.anti a c;have:=h.trans c b a om om;omega⟩
end
theorem cmp_sgn: Cmp sgn:=by
 refine⟨λa b=>?_,λa b h=>?_,λa b c j i=>?_⟩
 .unfold sgn;split<;>split<;>omega
 .unfold sgn at h;split at h;repeat grind
 repeat grind [sgn]
theorem Jrh(a b:Int): sgn a b = -1∨sgn a b=0∨sgn a b=1:=by
 unfold sgn;grind
theorem Qwx: ∀ x y:List UInt8,Lib.compareBytes y x = - Lib.compareBytes x y
 | [],[]=>rfl
 | [],_::_=>rfl
 | _::_,[]=>rfl
 | a::x,b::y=>by
  simp only[Lib.compareBytes];have ih:=Qwx x y;grind
theorem Qwv: ∀ x y:List UInt8,Lib.compareBytes x y=0->x=y
 | [],[],_=>rfl
 | [],_::_,h=>by simp[Lib.compareBytes]at h
 | _::_,[],h=>by simp[Lib.compareBytes]at h
 | a::x,b::y,h=>by
  simp only[Lib.compareBytes,UInt8.lt_iff_toNat_lt]at h;split at h
  .cases h
  split at h
  .cases h
  rw[Qwv x y h,UInt8.toNat_inj.1 (show a.toNat=b.toNat by omega)]
theorem Qww: ∀ x y z:List UInt8,Lib.compareBytes x y<=0->Lib.compareBytes y z<=0->Lib.compareBytes x z<=0
 | [],_,[],_,_=>by simp[Lib.compareBytes]
 | [],_,_::_,_,_=>by simp[Lib.compareBytes]
 | _::_,[],_,h,_=>by simp[Lib.compareBytes]at h
 | _::_,_::_,[],_,h=>by simp[Lib.compareBytes]at h
 | a::x,b::y,c::z,h1,h2=>by
  simp only[Lib.compareBytes,UInt8.lt_iff_toNat_lt]at *;split at h1
  .grind
  split at h1
  .grind
  split at h2
  .grind
  split at h2
  .grind
  rw[if_neg om,if_neg om];exact Qww x y z h1 h2
theorem cb_3: ∀ x y:List UInt8,Lib.compareBytes x y = -1∨Lib.compareBytes x y=0∨Lib.compareBytes x y=1
 | [],[]=>by simp[Lib.compareBytes]
 | [],_::_=>by simp[Lib.compareBytes]
 | _::_,[]=>by simp[Lib.compareBytes]
 | a::x,b::y=>by
  simp only[Lib.compareBytes];split
  .simp
  split
  .simp
  exact cb_3 x y
theorem V.ext{a b:V}(h1:a.kind=b.kind)(h2:a.num=b.num)(h3:a.bytes=b.bytes): a=b:=by
 obtain⟨k,n,s⟩:=a;obtain⟨u,j,i⟩:=b;simp only[V.bytes]at *;obtain⟨d⟩:=s;obtain⟨y⟩:=i;simp only at h1 h2 h3;rw[h1,h2,Array.toList_inj.1 h3]
theorem Jyc{a b:Int}(h:a≠b): sgn a b≠0:=λe=>h (cmp_sgn.zero _ _ e)
theorem Xzj(a b:V): cmpV a b = -1∨cmpV a b=0∨cmpV a b=1:=by
 unfold cmpV;split
 .exact Jrh _ _
 split
 repeat grind [Jrh,cb_3]
theorem cmp_V: Cmp cmpV:=by
 refine⟨λa b=>?_,λa b h=>?_,λa b c j i=>?_⟩
 .unfold cmpV;by_cases h:a.kind=b.kind
  .rw[if_neg (not_not_intro h),if_neg (not_not_intro h.symm)];by_cases i:a.num=b.num
   .grind [Qwx]
   rw[if_pos i,if_pos (Ne.symm i)];exact cmp_sgn.anti _ _
  rw[if_pos h,if_pos (Ne.symm h)];exact cmp_sgn.anti _ _
 .unfold cmpV at h;split at h
  .grind [Jyc]
  rename_i j;split at h
  repeat grind [Jyc,V.ext,Qwv]
 unfold cmpV at *;by_cases k1:a.kind=b.kind<;>by_cases k2:b.kind=c.kind
 .have B:a.kind=c.kind:=k1.trans k2;rw[if_neg (by simp[k1])]at j;rw[if_neg (by simp[k2])]at i;rw[if_neg (by simp[B])];by_cases n1:a.num=b.num<;>by_cases n2:b.num=c.num
  .grind [Qww]
  .grind
  .grind
  rw[if_pos n1]at j;rw[if_pos n2]at i;have y:=cmp_sgn.lt_le (a:=a.num) (c:=c.num) (by grind [Jyc]) i;have u:a.num≠c.num:=by intro e;rw[e,cmp_sgn.refl]at y;omega
  rw[if_pos u];omega
 .grind
 .grind
 rw[if_pos k1]at j;rw[if_pos k2]at i;have y:=cmp_sgn.lt_le (a:=a.kind) (c:=c.kind) (by grind [Jyc]) i;have u:a.kind≠c.kind:=by intro e;rw[e,cmp_sgn.refl]at y;omega
 rw[if_pos u];omega
theorem Vs(a:V): cmpV a a=0:=cmp_V.refl a
theorem neg_0(d:Bool): neg d 0=0:=by cases d<;>rfl
theorem Jlp(d:Bool): Cmp λa b=>neg d (cmpV a b):=by
 cases d
 .exact cmp_V
 exact cmp_V.flip
theorem Jlq: ∀(a b:List V) (ds:List Bool),Jf b a ds = - Jf a b ds
 | [],[],_=>rfl
 | [],_::_,_=>rfl
 | _::_,[],_=>rfl
 | x::a,y::b,ds=>by
  simp only[Jf];have h:=cmp_V.anti x y;by_cases e:cmpV x y=0
  .rw[if_pos e,if_pos om];exact Jlq a b _
  rw[if_neg e,if_neg om];exact(Jlp _).anti x y
theorem Jck: ∀(a b:List V) (ds:List Bool),Jf a b ds=0->a=b
 | [],[],_,_=>rfl
 | [],_::_,_,h=>by simp[Jf]at h
 | _::_,[],_,h=>by simp[Jf]at h
 | x::a,y::b,ds,h=>by
  simp only[Jf]at h;split at h
  .rename_i e;rw[cmp_V.zero _ _ e,Jck a b _ h]
  rename_i e;exact absurd (congrArg (cmpV x) ((Jlp _).zero x y h)) (by grind [Vs])
theorem Qwk: ∀(a b c:List V) (ds:List Bool),Jf a b ds<=0->Jf b c ds<=0->Jf a c ds<=0
 | [],_,[],_,_,_=>by simp[Jf]
 | [],_,_::_,_,_,_=>by simp[Jf]
 | _::_,[],_,_,h,_=>by simp[Jf]at h
 | _::_,_::_,[],_,_,h=>by simp[Jf]at h
 | x::a,y::b,z::c,ds,h1,h2=>by
  simp only[Jf]at *;have N:=Jlp (ds.getD 0 false);by_cases e1:cmpV x y=0
  .rw[if_pos e1]at h1;rw[cmp_V.zero _ _ e1];by_cases e2:cmpV y z=0
   .rw[if_pos e2]at h2 ⊢;exact Qwk a b c _ h1 h2
   repeat grind
  rw[if_neg e1]at h1;by_cases e2:cmpV y z=0
  .rw[<-cmp_V.zero _ _ e2,if_neg e1];exact h1
  rw[if_neg e2]at h2;have hne:neg (ds.getD 0 false) (cmpV x y)≠0:=λe=>e1 (by have:=N.zero x y e;grind [Vs]);have h3:=N.lt_le (a:=x) (b:=y) (c:=z) om h2;grind [cmpV,neg_0]
theorem Jwx(ds:List Bool): Cmp λa b=>Jf a b ds:=⟨λa b=>Jlq a b ds,λa b h=>Jck a b ds h,λa b c j i=>Qwk a b c ds j i⟩
theorem Il(a:List V)(ds:List Bool): Jf a a ds=0:=(Jwx ds).refl a
open Go.RowKit Pl Go.Wk
attribute [local irreducible] WC WL QX WD WDB
variable {ds:List Bool}{a b:List V}{k:Nat}{va vb vd:Value}{w:World}
def RowV(w:World)(v:Value)(r:List V): Prop:=∃ A c,v=.slice A r.length c/\r.length<=c/\r.length<=1100000/\RdR w A r
def BoolsV(w:World)(v:Value)(ds:List Bool): Prop:=∃ A c,v=.slice A ds.length c/\ds.length<=c/\ds.length<=1100000/\RdB w A ds
theorem RowV.ext{w w':World}{v:Value}{r:List V}(h:RowV w v r)(hx:Ext w w'): RowV w' v r:=by
 obtain⟨A,c,y,u,j,i⟩:=h;exact⟨A,c,y,u,j,i.ext hx⟩
theorem BoolsV.ext{w w':World}{v:Value}{r:List Bool}(h:BoolsV w v r)(hx:Ext w w'): BoolsV w' v r:=by
 obtain⟨A,c,y,u,j,i⟩:=h;exact⟨A,c,y,u,j,i.ext hx⟩
theorem RowV.nil(w:World)(A:Option Addr)(c:Nat): RowV w (.slice A 0 c) []:=⟨A,c,rfl,by simp,by simp,Rd.nil⟩
theorem BoolsV.nil(w:World)(A:Option Addr)(c:Nat): BoolsV w (.slice A 0 c) []:=⟨A,c,rfl,by simp,by simp,Rd.nil⟩
theorem Xzp(ha:k<a.length)(hb:k<b.length): Jf (a.drop k) (b.drop k) (ds.drop k) =
  if cmpV (a.getD k V0) (b.getD k V0)=0 then Jf (a.drop (k+1)) (b.drop (k+1)) (ds.drop (k+1)) else neg (ds.getD k false) (cmpV (a.getD k V0) (b.getD k V0)):=by grind [List.drop_eq_getElem_cons,Jf,V0,List.getD,List.getElem?_eq_getElem,List.drop_drop]
theorem Xzm(hk:a.length<=k∨b.length<=k)(hka:k<=a.length)(hkb:k<=b.length): Jf (a.drop k) (b.drop k) (ds.drop k)=if a.length<b.length then -1 else if b.length<a.length then 1 else 0:=by
 rcases Nat.lt_trichotomy a.length b.length with h|h|h
 .rw[if_pos h,List.drop_of_length_le (by omega:a.length<=k),List.drop_eq_getElem_cons (by omega:k<b.length)];rfl
 .rw[if_neg om,if_neg om,List.drop_of_length_le (by omega:a.length<=k),List.drop_of_length_le (by omega:b.length<=k)];rfl
 rw[if_neg om,if_pos h,List.drop_of_length_le (by omega:b.length<=k),List.drop_eq_getElem_cons (by omega:k<a.length)];rfl
theorem Qyp(a b:V): IntKind.i64.wrap (0-cmpV a b)=neg true (cmpV a b):=by
 rcases Xzj a b with h|h|h<;>rw[h]<;>rfl
theorem Qpr(n m:Nat): (if(m:Int)<(n:Int) then(m:Int) else(n:Int))=((min n m:Nat):Int):=by split<;>omega
theorem Xxq(ha:RowV w va a)(hb:RowV w vb b)(hd:BoolsV w vd ds):
  Ret Tryz.prog 186 [va,vb,vd] w λr w'=>r=.int .i64 (Jf a b ds)/\Ext w w':=by
 obtain⟨A,ac,rfl,ai,ah,ha⟩:=ha;obtain⟨B,bc,rfl,ag,af,hb⟩:=hb;obtain⟨D,dc,rfl,ad,ab,hd⟩:=hd;refine Jz Tryz.func186 Tryz.ntmps186 rfl kr rfl ?_;refine ρ ?_;rw[Qpr];refine Js (λk=>[(0,.slice A a.length ac),(1,.slice B b.length bc),(2,.slice D ds.length dc),(13,.int .i64 ((min a.length b.length:Nat):Int)),(14,.int .i64 ((k:Nat):Int))])
  (λk w'=>Ext w w'/\k<=a.length/\k<=b.length/\Jf a b ds=Jf (a.drop k) (b.drop k) (ds.drop k)) (λk=>a.length-k) 0 sB ⟨Ext.refl w,Nat.zero_le _,Nat.zero_le _,rfl⟩ ?_
 rintro k w1 ⟨G,a7,a6,he⟩;have a9:=ha.ext G;have a8:=hb.ext G;have ae:=hd.ext G;refine ρ ?_;have out:(a.length<=k∨b.length<=k)->Jf a b ds=if a.length<b.length then -1 else if b.length<a.length then 1 else 0:=λh=>by rw[he,Xzm h a7 a6]
 refine ci (λh=>?_) (λh=>?_)
 .have aa:k<min a.length b.length:=by have:=oT h;omega
  have O:k<a.length:=om
  have J:k<b.length:=om
  refine ρ ?_;refine dr [(0,0),(0,1),(0,2),(0,3),(0,4),(0,5),(0,6),(0,7),(1,8),(0,9)] kr ?_;have y:Ext w1 w1.drew:=(Ext.refl w1).drew;have a5:=a9.ext y;have a4:=a8.ext y;refine ρd ?_;refine Xc 3 k a5 O ?_;refine ρd ?_;refine Qb (λj u hu=>RdR.cell a5 O hu) ?_;refine ρd ?_;refine Xc 3 k a4 J ?_;refine ρd ?_;refine Qb (λj u hu=>RdR.cell a4 J hu) ?_;refine ρd ?_;refine dcl (Jvp (a.getD k V0) (b.getD k V0) _) ?_;rintro x w2 ⟨rfl,Z⟩;refine⟨Z,?_⟩;have i:Ext w w2:=(G.trans y).trans Z;have a3:=hd.ext i;refine ρd ?_;refine ρ ?_;have step:=Xzp (ds:=ds) O J;refine ci (λh0=>?_) (λh0=>?_)
  .refine ρ ?_;refine Jp (k+1) sB ⟨i,om,om,?_⟩ om;grind
  have a1:=Uj h0;refine ρ ?_;refine ki 32 (λh=>?_) (λh=>?_)
  .have a2:k<ds.length:=by have:=oT h;omega
   refine ρ ?_;refine ix k a3 a2 ?_;refine ρ ?_;refine ld (RdB.cell a3 a2) ?_;refine ρ ?_;refine ci (λh1=>?_) (λh1=>?_)
   .refine ρ ?_;refine Jq ⟨?_,i⟩;grind [Qyp]
   refine ρ ?_;refine Jq ⟨?_,i⟩;rw[he,step,h1,if_neg a1];rfl
  have h1:ds.getD k false=false:=by grind
  refine ρ ?_;refine Jq ⟨?_,i⟩;rw[he,step,h1,if_neg a1];rfl
 have U:=out (by grind);refine ρ ?_;refine ci (λh=>?_) (λh1=>?_)
 .refine ρ ?_;refine Jq ⟨?_,G⟩;rw[U,if_pos (by grind)]
 refine ρ ?_;refine ci (λh=>?_) (λh2=>?_)
 .refine ρ ?_;refine Jq ⟨?_,G⟩;rw[U,if_neg (by grind),if_pos (by grind)]
 refine ρ ?_;refine Jq ⟨?_,G⟩;rw[U,if_neg (by grind),if_neg (by grind)]
theorem Jrz(ha:RowV w va a)(hb:RowV w vb b):
  Ret Tryz.prog 152 [va,vb] w λr w'=>r=.int .i64 (Jf a b [])/\Ext w w':=by
 refine Jz Tryz.func152 Tryz.ntmps152 rfl kr rfl ?_;refine ρ ?_;refine cl (Xxq ha hb (BoolsV.nil w none 0)) ?_;rintro v w1 ⟨rfl,i⟩;refine ρ ?_;exact Jq ⟨rfl,i⟩
theorem Xzn(a b:List V)(ds:List Bool): (Jf a b ds == 0)=true↔a=b:=by
 constructor
 .intro h;exact Jck _ _ _ (Ug h)
 repeat grind [Il]
instance:DecidableEq V:=λa b=>if h:cmpV a b=0 then isTrue (cmp_V.zero _ _ h) else isFalse (λe=>h (by rw[e];exact Vs b))
theorem Xzl(a b:List V)(ds:List Bool): (Jf a b ds == 0)=decide (a=b):=by
 rw[Bool.eq_iff_iff,Xzn,decide_eq_true_iff]
theorem Qgf(ha:RowV w va a)(hb:RowV w vb b):
  Ret Tryz.prog 126 [va,vb] w λr w'=>r=.bool (decide (a=b))/\Ext w w':=by
 refine Jz Tryz.func126 Tryz.ntmps126 rfl kr rfl ?_;refine ρ ?_;refine cl (Jrz ha hb) ?_;rintro v w1 ⟨rfl,i⟩;refine ρ ?_;refine Jq ⟨?_,i⟩;rw[Xzl]
open Go.RowKit Pl Go.Wk
attribute [local irreducible] WP
variable {j k x:Nat}
def Jw(x:Nat): Nat:=if x=0 then 0 else Nat.log2 x+1
theorem Up: x<2^Jw x:=by
 unfold Jw;split
 .omega
 exact Nat.lt_log2_self
theorem Ky(h:x≠0): 0<Jw x/\2^(Jw x-1)<=x:=by grind [Jw,Nat.log2_self_le]
theorem Ys(h:x<2^k): Jw x<=k:=by
 unfold Jw;split
 .omega
 rename_i h0;have:=(Nat.log2_lt h0).2 h;omega
theorem Qrr(h1:2^k<=x)(h2:x<2^(k+1)): Jw x=k+1:=by
 have j:=Ys h2;have i:=Up (x:=x);rcases Nat.lt_or_ge (Jw x) (k+1) with h|h
 .have:=Nat.pow_le_pow_right (show 0<2 by omega) (show Jw x<=k by omega);omega
 omega
theorem Jxx(h:2^k<=x): Jw x=k+Jw (x / 2^k):=by
 have i:0<2^k:=Nat.pow_pos om;have u:x / 2^k≠0:=by
  have:=(Nat.le_div_iff_mul_le i).2 (show 1*2^k<=x by omega);omega
 obtain⟨a,b⟩:=Ky u;have c:=Up (x:=x / 2^k);generalize Jw (x / 2^k)=m at *
 obtain⟨m,rfl⟩:∃ j,m=j+1:=⟨m-1,om⟩;rw[Nat.add_sub_cancel]at b;have:=Qrr (x:=x) (k:=k+m) (by grind [Nat.pow_add,Nat.le_div_iff_mul_le,Nat.mul_comm]) (by
  rw[show k+m+1=(m+1)+k by omega,Nat.pow_add];exact(Nat.div_lt_iff_lt_mul i).1 c)
 omega
theorem tabB(s:ByteArray)(h:((List.range 256).all λj=>(s.data.toList.getD j 0).toNat == Jw j)=true)(hj:j<256): (s.data.toList.getD j 0).toNat=Jw j:=by grind
theorem Jjc(y k m:Nat): ((y:Int)).fdiv (2^(min ((k:Nat):Int).toNat m))=((y / 2^(min k m):Nat):Int):=by grind
theorem Qrs(x:Nat)(hx:x<18446744073709551616)(w:World): Ret Tryz.prog 219 [.int .u64 (x:Int)] w λv w'=>v=.int .i64 (Jw x:Int)/\w'=w:=by
 refine Jz Tryz.func219 Tryz.ntmps219 rfl kr rfl ?_;refine ρ ?_;refine Gn (fun (y s:Nat)=>[(0,.int .u64 (y:Int)),(2,.int .i64 (s:Int))]) (λy s w'=>w'=w/\Jw x=s+Jw y/\y<4294967296/\s<=32) ?_ ?_
 .refine ci (λh=>?_) (λh=>?_)
  .have B:=oT h;refine ρ ?_;refine Zk rfl rfl (by decide) rfl ?_;refine kv 6 (u:=.int .u64 ((x / 2^32:Nat):Int)) (congrArg (Value.int .u64) (Jjc x 32 64)) ?_;refine ρ ?_;have e:=Jxx (x:=x) (k:=32) om;exact Xe (x / 2^32) 32 sO ⟨rfl,e,om,om⟩
  have B:=oF h;refine ρ ?_;exact Xe x 0 sO ⟨rfl,om,om,om⟩
 rintro j J w ⟨rfl,e0,b0,c0⟩;refine ρ ?_;refine Gn (fun (y s:Nat)=>[(0,.int .u64 (y:Int)),(2,.int .i64 (s:Int))]) (λy s w'=>w'=w/\Jw x=s+Jw y/\y<65536/\s<=48) ?_ ?_
 .refine ci (λh=>?_) (λh=>?_)
  .have B:=oT h;refine ρ ?_;refine Zk rfl rfl (by decide) rfl ?_;refine kv 10 (u:=.int .u64 ((j / 2^16:Nat):Int)) (congrArg (Value.int .u64) (Jjc j 16 64)) ?_;refine ρ ?_;have e:=Jxx (x:=j) (k:=16) om;exact Xe (j / 2^16) (J+16) sO ⟨rfl,om,om,om⟩
  have B:=oF h;refine ρ ?_;exact Xe j J sO ⟨rfl,om,om,om⟩
 rintro i G w ⟨rfl,e1,b1,c1⟩;refine ρ ?_;refine Gn (fun (y s:Nat)=>[(0,.int .u64 (y:Int)),(2,.int .i64 (s:Int))]) (λy s w'=>w'=w/\Jw x=s+Jw y/\y<256/\s<=56) ?_ ?_
 .refine ci (λh=>?_) (λh=>?_)
  .have B:=oT h;refine ρ ?_;refine Zk rfl rfl (by decide) rfl ?_;refine kv 16 (u:=.int .u64 ((i / 2^8:Nat):Int)) (congrArg (Value.int .u64) (Jjc i 8 64)) ?_;refine ρ ?_;have e:=Jxx (x:=i) (k:=8) om;exact Xe (i / 2^8) (G+8) sO ⟨rfl,om,om,om⟩
  have B:=oF h;refine ρ ?_;exact Xe i G sO ⟨rfl,om,om,om⟩
 rintro D U w ⟨rfl,Z,O,c2⟩;refine ρ ?_;refine Jms Jqs D rfl rfl rfl rfl ?_ ?_ rfl ?_
 .rw[IntKind.wrap_u8];omega
 .exact nM O (by decide)
 refine kv 22 (u:=.int .u8 (Jw D:Int)) (congrArg (λz:Nat=>Value.int .u8 (z:Int)) (tabB _ kr O)) ?_;have:=Ys (x:=D) (k:=8) om;refine ρ ?_;refine Jq ⟨?_,rfl⟩;grind [Vn,Jw]
theorem Qqs(x:Nat)(hx:x<4294967296)(w:World): Ret Tryz.prog 169 [.int .u32 (x:Int)] w λv w'=>v=.int .i64 (Jw x:Int)/\w'=w:=by
 refine Jz Tryz.func169 Tryz.ntmps169 rfl kr rfl ?_;refine ρ ?_;refine Gn (fun (y s:Nat)=>[(0,.int .u32 (y:Int)),(2,.int .i64 (s:Int))]) (λy s w'=>w'=w/\Jw x=s+Jw y/\y<65536/\s<=16) ?_ ?_
 .refine ci (λh=>?_) (λh=>?_)
  .have B:=oT h;refine ρ ?_;refine Zk rfl rfl (by decide) rfl ?_;refine kv 6 (u:=.int .u32 ((x / 2^16:Nat):Int)) (congrArg (Value.int .u32) (Jjc x 16 32)) ?_;refine ρ ?_;have e:=Jxx (x:=x) (k:=16) om;exact Xe (x / 2^16) 16 sO ⟨rfl,e,om,om⟩
  have B:=oF h;refine ρ ?_;exact Xe x 0 sO ⟨rfl,om,om,om⟩
 rintro i D w ⟨rfl,U,b0,c0⟩;refine ρ ?_;refine Gn (fun (y s:Nat)=>[(0,.int .u32 (y:Int)),(2,.int .i64 (s:Int))]) (λy s w'=>w'=w/\Jw x=s+Jw y/\y<256/\s<=24) ?_ ?_
 .refine ci (λh=>?_) (λh=>?_)
  .have B:=oT h;refine ρ ?_;refine Zk rfl rfl (by decide) rfl ?_;refine kv 10 (u:=.int .u32 ((i / 2^8:Nat):Int)) (congrArg (Value.int .u32) (Jjc i 8 32)) ?_;refine ρ ?_;have e:=Jxx (x:=i) (k:=8) om;exact Xe (i / 2^8) (D+8) sO ⟨rfl,om,om,om⟩
  have B:=oF h;refine ρ ?_;exact Xe i D sO ⟨rfl,om,om,om⟩
 rintro j J w ⟨rfl,O,G,Z⟩;refine ρ ?_;refine Jms Jqs j rfl rfl rfl rfl ?_ ?_ rfl ?_
 .rw[IntKind.wrap_u8];omega
 .exact nM G (by decide)
 refine kv 16 (u:=.int .u8 (Jw j:Int)) (congrArg (λz:Nat=>Value.int .u8 (z:Int)) (tabB _ kr G)) ?_;have:=Ys (x:=j) (k:=8) om;refine ρ ?_;refine Jq ⟨?_,rfl⟩;grind [Vn,Jw]
theorem Jmg(x:Nat)(h:x<18446744073709551616)(w:World): Ret Tryz.prog 188 [.int .u64 (x:Int)] w λv w'=>v=.int .i64 (Jw x:Int)/\w'=w:=by
 refine Jz Tryz.func188 Tryz.ntmps188 rfl kr rfl ?_;refine ρ ?_;refine cl (Qrs x h w) ?_;rintro v w' ⟨rfl,rfl⟩;refine ρ ?_;exact Jq ⟨rfl,rfl⟩
end Go.Proofs.YtebiphhfkdbpfaaGreatDoor
namespace Go.Proofs.YtebiphhfkdbpfaaGreatDoor
variable {a a' b b' i j:Nat}
section
variable {α:Type} (z:α)
def swp(q:List α)(i j:Nat): List α:=(q.set i (q.getD j z)).set j (q.getD i z)
theorem Qcv(q:List α)(i j:Nat): (swp z q i j).length=q.length:=by simp[swp]
theorem Jhl(q:List α)(i k:Nat)(x:α)(hi:i<q.length): (q.set i x).getD k z=if k=i then x else q.getD k z:=by grind
theorem Jdn(q:List α)(hi:i<q.length)(hj:j<q.length)(k:Nat): (swp z q i j).getD k z=if k=j then q.getD i z else if k=i then q.getD j z else q.getD k z:=by grind [swp,Jhl]
theorem Ql(q:List α)(h:i<q.length): q.getD i z=q[i]:=by grind
theorem Jpj(q:List α)(hi:i<q.length)(hj:j<q.length): (swp z q i j).Perm q:=by grind [swp,Ql,List.set_set_perm]
theorem getD_mem'(q:List α)(h:i<q.length): q.getD i z∈q:=by grind
structure Seg(a b:Nat)(q q':List α): Prop where
 perm:q'.Perm q
 lo:∀ k,k<a->q'.getD k z=q.getD k z
 hi:∀ k,b<=k->q'.getD k z=q.getD k z
variable {z}
theorem Seg.len{q q':List α}(h:Seg z a b q q'): q'.length=q.length:=h.perm.length_eq
theorem Seg.refl(a b:Nat)(q:List α): Seg z a b q q:=⟨List.Perm.refl _,λ_ _=>rfl,λ_ _=>rfl⟩
theorem Seg.trans{a b:Nat}{q q' q'':List α}(h:Seg z a b q q')(k:Seg z a b q' q''): Seg z a b q q'' :=
 ⟨k.perm.trans h.perm,λi hi=>(k.lo i hi).trans (h.lo i hi),λi hi=>(k.hi i hi).trans (h.hi i hi)⟩
theorem Seg.mono{q q':List α}(h:Seg z a b q q')(h1:a'<=a)(h2:b<=b'): Seg z a' b' q q' :=
 ⟨h.perm,λi hi=>h.lo i om,λi hi=>h.hi i om⟩
theorem Seg.swp{q:List α}(h1:a<=i)(h2:i<b)(h3:a<=j)(h4:j<b)(hb:b<=q.length): Seg z a b q (swp z q i j) :=
 ⟨Jpj z q om om,λk u=>by grind [Jdn],λk u=>by grind [Jdn]⟩
theorem Qxs{q q':List α}(hl:q'.length=q.length)(h:∀ k,k<q.length->q'.getD k z=q.getD k z): q'=q:=by grind [List.ext_getElem,Ql]
theorem Qxr(q:List α)(a k:Nat)(h:k<a): (q.take a).getD k z=q.getD k z:=by simp[List.getD,h]
theorem Qxt(q:List α)(a k:Nat): (q.drop a).getD k z=q.getD (a+k) z:=by grind
theorem Seg.all{q q':List α}(h:Seg z a b q q')(hab:a<=b)(hb:b<=q.length){Φ:α->Prop}(H:∀ k,a<=k->k<b->Φ (q.getD k z)): ∀ k,a<=k->k<b->Φ (q'.getD k z):=by
 intro k Z U;have y:=h.len;have J:q'.take a=q.take a:=Qxs (z:=z) (by simp[y]) (λi hi=>by
  have j:i<a:=by simp at hi;omega
  rw[Qxr _ _ _ j,Qxr _ _ _ j];exact h.lo i j)
 have G:q'.drop b=q.drop b:=Qxs (z:=z) (by simp[y]) (λi hi=>by
  rw[Qxt,Qxt];exact h.hi _ om)
 have s:∀ l:List α,l=l.take a++((l.take b).drop a++l.drop b):=λl=>by grind [List.append_assoc,List.take_append_drop]
 have p:=h.perm;rw[s q',s q,J,G]at p;have B:=(List.perm_append_right_iff _).1 ((List.perm_append_left_iff _).1 p);have D:q'.getD k z∈(q'.take b).drop a:=by
  have e:((q'.take b).drop a).getD (k-a) z=q'.getD k z:=by grind
  grind [getD_mem']
 have u:=B.mem_iff.1 D;obtain⟨i,hi,O⟩:=List.getElem_of_mem u;have:((q.take b).drop a).getD i z=q'.getD k z:=by grind
 grind
end
section
variable {α:Type} (z:α) (f:α->α->Int)
def SOn(q:List α)(a b:Nat): Prop:=∀ i j,a<=i->i<j->j<b->f (q.getD i z) (q.getD j z)<=0
variable {z f}
theorem SOn.mono{q:List α}(h:SOn z f q a b)(h1:a<=a')(h2:b'<=b): SOn z f q a' b':=λi j hi u y=>h i j om u om
theorem SOn.same{q q':List α}(h:SOn z f q a b)(he:∀ k,a<=k->k<b->q'.getD k z=q.getD k z): SOn z f q' a b:=λi j hi u y=>by
 rw[he i hi om,he j om y];exact h i j hi u y
theorem SOn.one(q:List α)(h:b<=a+1): SOn z f q a b:=λi j hi u y=>by omega
def InsI(z:α)(f:α->α->Int)(q:List α)(a i j:Nat): Prop:=a<=j/\j<=i/\(∀ k m,a<=k->k<m->m<=i->k≠j->m≠j->f (q.getD k z) (q.getD m z)<=0)/\(∀ m,j<m->m<=i->f (q.getD j z) (q.getD m z)<=0)
theorem InsI.start{q:List α}(h:SOn z f q a i)(hi:a<=i): InsI z f q a i i :=
 ⟨hi,Nat.le_refl _,λk m u j D B y=>h k m u j om,λm u j=>om⟩
theorem InsI.step{q:List α}(h:InsI z f q a i j)(hj:a<j)(hi:i<q.length)(hlt:f (q.getD j z) (q.getD (j-1) z)<0): InsI z f (swp z q j (j-1)) a i (j-1):=by
 obtain⟨Z,U,O,J⟩:=h;have s:=λk=>Jdn z q (i:=j) (j:=j-1) om om k;refine⟨om,om,λk m y u G D B=>?_,λm y u=>?_⟩;repeat grind
theorem InsI.done0{q:List α}(h:InsI z f q a i a): SOn z f q a (i+1):=by
 obtain⟨J,G,D,B⟩:=h;intro k m y u j;grind
theorem InsI.done{q:List α}(hf:PreC f)(h:InsI z f q a i j)(hj:a<j)(hge:¬ f (q.getD j z) (q.getD (j-1) z)<0): SOn z f q a (i+1):=by
 obtain⟨U,O,B,J⟩:=h;have u:f (q.getD (j-1) z) (q.getD j z)<=0:=by have:=hf.anti (q.getD j z) (q.getD (j-1) z);omega
 intro k m y G D;by_cases e:k=j
 .grind
 by_cases e2:m=j
 .subst e2;by_cases e3:k=m-1
  .rw[e3];exact u
  exact hf.trans _ _ _ (B k (m-1) y om om e om) u
 repeat grind
end
open Go.RowKit Pl Go.Wk
attribute [local irreducible] WC WL QX WD WDB WP
variable {ds:List Bool}{base c i j n:Nat}{A:Option Addr}{fv v:Value}{w w' w1:World}
abbrev Pr:= Value×List V
def z0: Pr:=(undef,[])
def Dat(w:World)(base:Nat)(v:Value)(ps:List Pr): Prop:=w.ownsRow base 85 1 v ps.length (ps.map (·.1))/\∀ p∈ps,p.1.oneCell'=true
theorem Dat.ext{ps:List Pr}(h:Dat w base v ps)(hx:Ext w w'): Dat w' base v ps:=⟨Jh h.1 hx,h.2⟩
theorem Dat.rd{ps:List Pr}(h:Dat w base (.slice A n c) ps)(hn:ps.length=n): Rd w 1 A n (ps.map (·.1)):=by
 have:=h.1;rw[hn]at this;exact Rd.own this
theorem Jfq{ps:List Pr}(h:i<ps.length): (ps.map (·.1))[i]?=some (ps.getD i z0).1:=by grind
theorem Dat.cell{w:World}{base:Nat}{A:Option Addr}{n c:Nat}{ps:List Pr}(h:Dat w base (.slice A n c) ps)(hn:ps.length=n){i:Nat}(hi:i<n): w.cell? (adr A i)=some (ps.getD i z0).1 :=
 (h.rd hn).cell (Jfq om)
theorem Dat.one{ps:List Pr}(h:Dat w base v ps)(hi:i<ps.length): (ps.getD i z0).1.oneCell'=true:=h.2 _ (getD_mem' z0 ps hi)
theorem Dat.store{ps:List Pr}(h:Dat w base (.slice A n c) ps)(hn:ps.length=n)(hi:i<n){p:Pr}(hp:p.1.oneCell'=true):
  w.frozen? (adr A i)=false/\Dat (w.setCell (adr A i) p.1) base (.slice A n c) (ps.set i p)/\w.grownBy (w.setCell (adr A i) p.1) (Value.slice A n c).ownBlock:=by
 have j:=h.1;rw[hn]at j;obtain⟨J,y,G,D,u⟩:=Xp j (q:=i) om p.1;refine⟨y,⟨?_,λq B=>?_⟩,u⟩
 .grind [List.length_set,List.map_set]
 rcases List.mem_or_eq_of_mem_set B with h'|h'
 .exact h.2 q h'
 rw[h'];exact hp
theorem Dat.swap{ps:List Pr}(h:Dat w base (.slice A n c) ps)(hn:ps.length=n)(hi:i<n)(hj:j<n):
  w.frozen? (adr A i)=false/\Rd (w.setCell (adr A i) (ps.getD j z0).1) 1 A n ((ps.set i (ps.getD j z0)).map (·.1))/\(w.setCell (adr A i) (ps.getD j z0).1).frozen? (adr A j)=false /\
  (∃ u,(w.setCell (adr A i) (ps.getD j z0).1).cell? (adr A j)=some u)/\Dat ((w.setCell (adr A i) (ps.getD j z0).1).setCell (adr A j) (ps.getD i z0).1) base (.slice A n c) (swp z0 ps i j) /\
  w.grownBy ((w.setCell (adr A i) (ps.getD j z0).1).setCell (adr A j) (ps.getD i z0).1) (Value.slice A n c).ownBlock:=by
 obtain⟨U,B,O⟩:=h.store hn hi (p:=ps.getD j z0) (h.one om);have y:(ps.set i (ps.getD j z0)).length=n:=by simp[hn]
 obtain⟨J,G,D⟩:=B.store y hj (p:=ps.getD i z0) (h.one om);exact⟨U,B.rd y,J,⟨_,B.cell y hj⟩,G,Xy O D⟩
def fP(ds:List Bool)(p q:Pr): Int:=Jf p.2 q.2 ds
theorem preP(ds:List Bool): PreC (fP ds):=(Jwx ds).pre (β:=Pr) (λp=>p.2)
def CmpF(w:World)(row:Option Nat)(fv:Value)(M:List Pr)(ds:List Bool): Prop:=∃ fid first cap,fv=.func (.func fid) first cap /\
 ∀ w',w.grownBy w' row->∀ p q,p∈M->q∈M->Ret Tryz.prog fid (first.toList++[p.1,q.1]++cap.toList) w' λr w''=>r=.int .i64 (fP ds p q)/\Ext w' w''
theorem CmpF.step{row:Option Nat}{M M':List Pr}(h:CmpF w row fv M ds)(hg:w.grownBy w1 row)(hp:M'.Perm M): CmpF w1 row fv M' ds:=by
 obtain⟨y,first,B,G,D⟩:=h;exact⟨y,first,B,G,λw' u p q j i=>D w' (Xy hg u) p q (hp.mem_iff.1 j) (hp.mem_iff.1 i)⟩
theorem Qxf{a b:Nat}{ai bi:Int}{ps:List Pr}(hD:Dat w base (.slice A n c) ps)(hn:ps.length=n)(hai:ai=(a:Int))(hbi:bi=(b:Int))(hb:b<=n)(ha:a<=n)(hmx:n<=140737488355328)(hC:CmpF w (Value.slice A n c).ownBlock fv ps ds):
  Ret Tryz.prog 211 [.slice A n c,.int .i64 ai,.int .i64 bi,fv] w λv w'=>∃ ps',Dat w' base (.slice A n c) ps'/\Seg z0 a b ps ps'/\SOn z0 (fP ds) ps' a b/\w.grownBy w' (Value.slice A n c).ownBlock:=by
 subst hai;subst hbi;obtain⟨aa,first,ab,rfl,hC⟩:=hC;refine Jz Tryz.func211 Tryz.ntmps211 rfl kr rfl ?_;refine ρ ?_;refine Qq (fun (i:Nat) (q:List Pr)=>[(0,.slice A n c),(1,.int .i64 (a:Int)),(2,.int .i64 (b:Int)),(3,.func (.func aa) first ab),(8,.int .i64 ((i:Nat):Int))])
  (λi q w'=>a+1<=i/\(i<=b∨i=a+1)/\Seg z0 a b ps q/\SOn z0 (fP ds) q a i/\Dat w' base (.slice A n c) q/\w.grownBy w' (Value.slice A n c).ownBlock) (λi _=>b+1-i) (a+1) ps sO
  ⟨Nat.le_refl _,.inr rfl,Seg.refl _ _ _,SOn.one _ om,hD,Xl (Ext.refl w) _⟩ ?_
 rintro i q w1 ⟨hai,ae,a6,a7,a9,a5⟩;refine ρ ?_;refine ci (λh=>?_) (λh=>?_)
 .have ad:i<b:=by have:=oT h;omega
  refine ρ ?_;refine Qq (fun (j:Nat) (q:List Pr)=>[(0,.slice A n c),(1,.int .i64 (a:Int)),(2,.int .i64 (b:Int)),(3,.func (.func aa) first ab),(8,.int .i64 ((i:Nat):Int)),(9,.int .i64 ((j:Nat):Int))])
   (λj q w'=>InsI z0 (fP ds) q a i j/\Seg z0 a b ps q/\Dat w' base (.slice A n c) q/\w.grownBy w' (Value.slice A n c).ownBlock) (λj _=>j) i q sB ⟨InsI.start a7 om,a6,a9,a5⟩ ?_
  rintro j q w2 ⟨hI,G,ac,hg2⟩;have y:q.length=n:=by rw[G.len,hn]
  obtain⟨h1,h2,_,_⟩:=id hI;refine ρ ?_;refine dr [(0,0),(0,1),(0,2),(0,3),(0,4),(0,5),(0,6),(0,7),(0,8),(0,9),(0,10),(0,11),(0,12),(0,13),(1,14),(0,15),(0,16)] kr ?_;have a3:Ext w2 w2.drew:=(Ext.refl w2).drew;have J:=ac.ext a3;have a1:=Xy hg2 (Xl a3 _);refine ρd ?_;refine dki 21 (λh=>?_) (λh=>?_)
  .have hj:a<j:=by have:=oT h;omega
   have U:j<n:=om
   have D:j-1<n:=om
   refine ρd ?_;refine dix j (J.rd y) U ?_;refine ρd ?_;refine dld (J.cell y U) ?_;refine ρd ?_;refine dix (j-1) (J.rd y) D ?_;refine ρd ?_;refine dld (J.cell y D) ?_;refine ρd ?_;refine Vy (hC _ a1 (q.getD j z0) (q.getD (j-1) z0) (G.perm.mem_iff.1 (getD_mem' z0 q om)) (G.perm.mem_iff.1 (getD_mem' z0 q om))) ?_;rintro r w4 ⟨rfl,Z⟩;refine⟨Z,?_⟩;have a8:=J.ext Z;have a4:=Xy a1 (Xl Z _);refine ρd ?_;refine ρ ?_;refine ci (λh=>?_) (λh=>?_)
   .have O:=oT h;refine ρ ?_;refine drC 4 [0,1,2,3,4,5,6,7,10,11] [(0,8),(0,9),(0,12),(0,13),(0,14),(2,15),(2,16),(2,17)] kr ?_;have a2:Ext w4 w4.drew:=(Ext.refl w4).drew;have B:=a8.ext a2;obtain⟨s1,s2,s3,⟨u,s4⟩,s5,s6⟩:=B.swap y U D;refine ρp ?_;refine dix (j-1) (B.rd y) D ?_;refine ρd ?_;refine dld (B.cell y D) ?_;refine ρd ?_;refine dix j (B.rd y) U ?_;refine ρd ?_;refine dld (B.cell y U) ?_;refine ρd ?_;refine dix j (B.rd y) U ?_;refine ρd ?_;refine Jd ?_;refine sto (B.cell y U) s1 ?_ (hv:=B.one (y.symm ▸ D));refine ρ ?_;refine Qf ?_;refine Jd ?_;refine ix (j-1) s2 D ?_;refine ρ ?_;refine Qf ?_;refine Jd ?_;refine sto s4 s3 ?_ (hv:=B.one (y.symm ▸ U));refine ρ ?_;exact Ju (j-1) (swp z0 q j (j-1)) sO ⟨hI.step hj om O,G.trans (Seg.swp om om om om om),s5,Xy a4 (Xy (Xl a2 _) s6)⟩ om
   have O:=oF h;refine ρ ?_;exact Ju (i+1) q sB ⟨om,om,G,hI.done (preP ds) hj O,a8,a4⟩ om
  have hj:j=a:=by have:=oF h;omega
  subst hj;refine ρd ?_;refine ρ ?_;exact Ju (i+1) q sB ⟨om,om,G,hI.done0,J,a1⟩ om
 refine ρ ?_;have hbi:b<=i:=by grind
 exact Yx ⟨q,a9,a6,a7.mono (Nat.le_refl _) hbi,a5⟩
end Go.Proofs.YtebiphhfkdbpfaaGreatDoor
namespace Go.Wk
variable {a b:Int}{k1 k2:IntKind}{x y:Operand}{t yt:TypeId}
section
variable {P:Program} {n:Nat} {al:AL} {w:World} {Q:Exit->Act->World->Prop} {ops:Array Oper} {rest:List Oper} {d ty:Nat} {pos:String} {aft:Array Edge}
theorem qn(m q:Nat)(k:WL P n ops Q rest ((d,.int .i64 ((m / q:Nat):Int))::al) w)(hx:ev al x=some (.int .i64 a):=by rfl)(hy:ev al y=some (.int .i64 b):=by rfl)(ha:a=(m:Int):=by first|rfl|omega)(hb:b=(q:Int):=by first|rfl|omega)(h0:0<q:=by omega)(hm:m<=9223372036854775807:=by omega)(hd:Nat.blt d n=true:=by rfl): WL P n ops Q (⟨some d,.binOp .quo t x y yt,ty,pos,aft,none⟩::rest) al w:=by
 subst ha;subst hb;refine Ie hx hy om hd ?_;have e:IntKind.i64.wrap ((m:Int).tdiv (q:Int))=((m / q:Nat):Int):=by
  rw[Int.tdiv_eq_ediv_of_nonneg om,<-Int.natCast_ediv];have:=Nat.div_le_self m q;generalize m / q=r at *
  exact Vn om
 rw[e];exact k
variable {drest:List (Nat×Oper)}
theorem dshl(k:WD P n ops Q drest ((d,.int k1 (k1.wrap (a*2^(min b.toNat k1.bits))))::al) w)(hx:ev al x=some (.int k1 a):=by rfl)(hy:ev al y=some (.int k2 b):=by rfl)(h0:0<=b:=by decide)(hd:Nat.blt d n=true:=by rfl):
  WD P n ops Q ((0,⟨some d,.binOp .shl t x y yt,ty,pos,aft,none⟩)::drest) al w :=
 dy (λw' _ e i=>by
  have j:¬ b<0:=om
  simp[execOp,i.ev hx,i.ev hy,eqGuard,binOp,Op.shift,j]) hd k
theorem dshr(k:WD P n ops Q drest ((d,.int k1 (a.fdiv (2^(min b.toNat k1.bits))))::al) w)(hx:ev al x=some (.int k1 a):=by rfl)(hy:ev al y=some (.int k2 b):=by rfl)(h0:0<=b:=by decide)(hd:Nat.blt d n=true:=by rfl):
  WD P n ops Q ((0,⟨some d,.binOp .shr t x y yt,ty,pos,aft,none⟩)::drest) al w :=
 dy (λw' _ e i=>by
  have j:¬ b<0:=om
  simp[execOp,i.ev hx,i.ev hy,eqGuard,binOp,Op.shift,j]) hd k
end
end Go.Wk
namespace Go.Proofs.YtebiphhfkdbpfaaGreatDoor
open Go.RowKit Pl Go.Wk
attribute [local irreducible] WC WL QX WD WDB WP
variable {cap first:Array Value}{fid:FuncId}{ai bi fsti hii loi:Int}{ds:List Bool}{M ps q q':List Pr}{a b base c fst g hi i j lo n t:Nat}{A:Option Addr}{w w' w0 w1:World}
structure DP(w0 w:World)(base:Nat)(A:Option Addr)(n c:Nat)(ps q:List Pr): Prop where
 d:Dat w base (.slice A n c) q
 p:q.Perm ps
 g:w0.grownBy w (Value.slice A n c).ownBlock
 l:q.length=n
section
variable {w0 w w':World} {base:Nat} {A:Option Addr} {n c:Nat} {ps q:List Pr}
theorem DP.start(hD:Dat w base (.slice A n c) ps)(hn:ps.length=n): DP w w base A n c ps ps:=⟨hD,List.Perm.refl _,Xl (Ext.refl w) _,hn⟩
theorem DP.ext(h:DP w0 w base A n c ps q)(hx:Ext w w'): DP w0 w' base A n c ps q:=⟨h.d.ext hx,h.p,Xy h.g (Xl hx _),h.l⟩
theorem DP.drew(h:DP w0 w base A n c ps q): DP w0 w.drew base A n c ps q:=h.ext (Ext.refl w).drew
theorem DP.rd(h:DP w0 w base A n c ps q): Rd w 1 A n (q.map (·.1)):=h.d.rd h.l
theorem DP.cell(h:DP w0 w base A n c ps q){i:Nat}(hi:i<n): w.cell? (adr A i)=some (q.getD i z0).1:=h.d.cell h.l hi
theorem DP.one(h:DP w0 w base A n c ps q){i:Nat}(hi:i<n): (q.getD i z0).1.oneCell'=true:=h.d.one (h.l.symm ▸ hi)
theorem DP.swap(h:DP w0 w base A n c ps q){i j:Nat}(hi:i<n)(hj:j<n):
  w.frozen? (adr A i)=false/\Rd (w.setCell (adr A i) (q.getD j z0).1) 1 A n ((q.set i (q.getD j z0)).map (·.1))/\(w.setCell (adr A i) (q.getD j z0).1).frozen? (adr A j)=false /\
  (∃ u,(w.setCell (adr A i) (q.getD j z0).1).cell? (adr A j)=some u)/\DP w0 ((w.setCell (adr A i) (q.getD j z0).1).setCell (adr A j) (q.getD i z0).1) base A n c ps (swp z0 q i j)/\w.grownBy ((w.setCell (adr A i) (q.getD j z0).1).setCell (adr A j) (q.getD i z0).1) (Value.slice A n c).ownBlock:=by
 obtain⟨O,J,G,D,B,y⟩:=h.d.swap h.l hi hj;exact⟨O,J,G,D,⟨B,(Jpj z0 q (h.l.symm ▸ hi) (h.l.symm ▸ hj)).trans h.p,Xy h.g y,by rw[Qcv];exact h.l⟩,y⟩
theorem DP.box(h:DP w0 w base A n c ps q){cs:List Value}(hB:Blk w g t cs)(hne:Nat.beq 85 t=false)(hg:w0.heap.size<=g)(u:Value): DP w0 (w.setCell ⟨g,0,none⟩ u) base A n c ps q:=by
 have j:w.grownBy (w.setCell ⟨g,0,none⟩ u) (some g):=⟨rfl,rfl,rfl,by simp[World.setCell],λk i hn=>Below.heap_setCell w ⟨g,0,none⟩ u k (λe=>hn (by rw[e]))⟩;refine⟨⟨h.d.1.kept j (Or.inr ?_),h.d.2⟩,h.p,?_,h.l⟩
 .exactλe=>hB.ne_own h.d.1 hne e.symm
 refine⟨h.g.os,h.g.tape,h.g.output,?_,λk i hn=>?_⟩
 .simp[World.setCell];exact h.g.size
 exact(Below.heap_setCell w ⟨g,0,none⟩ u k (by simp;omega)).trans (h.g.block k i hn)
end
def CF(w:World)(row:Option Nat)(fid:FuncId)(first cap:Array Value)(M:List Pr)(ds:List Bool): Prop :=
 ∀ w',w.grownBy w' row->∀ p q,p∈M->q∈M->Ret Tryz.prog fid (first.toList++[p.1,q.1]++cap.toList) w' λr w''=>r=.int .i64 (fP ds p q)/\Ext w' w''
theorem CF.call(hC:CF w0 (Value.slice A n c).ownBlock fid first cap ps ds)(h:DP w0 w base A n c ps q)(hi:i<n)(hj:j<n):
  Ret Tryz.prog fid (first.toList++[(q.getD i z0).1,(q.getD j z0).1]++cap.toList) w λr w''=>∃ b:Int,r=.int .i64 b/\Ext w w'' :=
 (hC w h.g _ _ (h.p.mem_iff.1 (getD_mem' z0 q (h.l.symm ▸ hi))) (h.p.mem_iff.1 (getD_mem' z0 q (h.l.symm ▸ hj)))).mono λr w'' ⟨y,u⟩=>⟨_,y,u⟩
theorem CF.pack{row:Option Nat}(h:CF w row fid first cap M ds): CmpF w row (.func (.func fid) first cap) M ds:=⟨fid,first,cap,rfl,h⟩
theorem CF.step(hC:CF w (Value.slice A n c).ownBlock fid first cap ps ds)(h:DP w w1 base A n c ps q): CF w1 (Value.slice A n c).ownBlock fid first cap q ds :=
 λw' i a b u j=>hC w' (Xy h.g i) a b (h.p.mem_iff.1 u) (h.p.mem_iff.1 j)
theorem DP.after(h:DP w0 w base A n c ps q)(k:DP w w' base A n c q q'): DP w0 w' base A n c ps q':=⟨k.d,k.p.trans h.p,Xy h.g k.g,k.l⟩
theorem Qgn(hD:Dat w base (.slice A n c) ps)(hn:ps.length=n)(hmx:n<=140737488355328)(hC:CF w (Value.slice A n c).ownBlock fid first cap ps ds)(hai:ai=(a:Int))(hbi:bi=(b:Int))(hab:a<b)(hb:b<=n):
  Ret Tryz.prog 215 [.slice A n c,.int .i64 ai,.int .i64 bi,.func (.func fid) first cap] w λv w'=>∃ ps',DP w w' base A n c ps ps':=by
 subst hai;subst hbi;refine Jz Tryz.func215 Tryz.ntmps215 rfl kr rfl ?_;refine ρ ?_;refine Xf (fun (i j:Nat) (q:List Pr)=>[(0,.slice A n c),(8,.int .i64 (i:Int)),(9,.int .i64 ((j:Int)-1))])
  (λi j q w'=>DP w w' base A n c ps q/\j<=n/\i<=n) (λi j _=>n+j-i) a b ps sO ⟨DP.start hD hn,hb,om⟩ ?_
 rintro i j q w1 ⟨H,hj,hi⟩;refine ρ ?_;refine ci (λh=>?_) (λh=>?_)
 .have a1:i+1<j:=by have:=oT h;omega
  have B:i<n:=om
  have D:j-1<n:=om
  refine ρ ?_;refine drC 4 [0,1,2,3,4,5,8,9] [(0,6),(0,7),(0,10),(0,11),(0,12),(2,13),(2,14),(2,15)] kr ?_;have y:=H.drew;obtain⟨Z,U,O,⟨u,J⟩,G,s6⟩:=y.swap B D;refine ρp ?_;refine dix (j-1) y.rd D ?_;refine ρd ?_;refine dld (y.cell D) ?_;refine ρd ?_;refine dix (i) y.rd B ?_;refine ρd ?_;refine dld (y.cell B) ?_;refine ρd ?_;refine dix (i) y.rd B ?_;refine ρd ?_;refine Jd ?_;refine sto (y.cell B) Z ?_ (hv:=y.one D);refine ρ ?_;refine Qf ?_;refine Jd ?_;refine ix (j-1) U D ?_;refine ρ ?_;refine Qf ?_;refine Jd ?_;refine sto J O ?_ (hv:=y.one B);refine ρ ?_;exact Qn (i+1) (j-1) (swp z0 q i (j-1)) sO ⟨G,om,om⟩ om
 refine ρ ?_;exact Yx ⟨q,H⟩
theorem Jpz(hD:Dat w base (.slice A n c) ps)(hn:ps.length=n)(hmx:n<=140737488355328)(hC:CF w (Value.slice A n c).ownBlock fid first cap ps ds)(hlo:loi=(lo:Int))(hhi:hii=(hi:Int))(hfst:fsti=(fst:Int))(hb:fst+hi<=n)(hl:lo<=n):
  Ret Tryz.prog 235 [.slice A n c,.int .i64 loi,.int .i64 hii,.int .i64 fsti,.func (.func fid) first cap] w λv w'=>∃ ps',DP w w' base A n c ps ps':=by
 subst hlo;subst hhi;subst hfst;refine Jz Tryz.func235 Tryz.ntmps235 rfl kr rfl ?_;refine ρ ?_;refine Qq (fun (i:Nat) (q:List Pr)=>[(0,.slice A n c),(2,.int .i64 (hi:Int)),(3,.int .i64 (fst:Int)),(4,.func (.func fid) first cap),(10,.int .i64 (i:Int))])
  (λi q w'=>DP w w' base A n c ps q/\i<=n) (λi _=>n-i) lo ps sB ⟨DP.start hD hn,hl⟩ ?_
 rintro i q w1 ⟨H,hr⟩;refine ρ ?_;refine ci (λh=>?_) (λh=>?_)
 .refine ρ ?_;exact Yx ⟨q,H⟩
 have a5:2*i+1<hi:=by have:=oF h;omega
 refine ρ ?_;refine Xn (fun (b:Bool)=>[(0,.slice A n c),(2,.int .i64 (hi:Int)),(3,.int .i64 (fst:Int)),(4,.func (.func fid) first cap),(10,.int .i64 (i:Int)),(11,.int .i64 (2*(i:Int)+1)),(40,.bool b)]) (λb w'=>DP w w' base A n c ps q/\(b=true->2*i+2<hi)) ?_ ?_
 .skip
  refine dr [(0,0),(0,1),(0,2),(0,3),(0,4),(0,5),(0,6),(0,7),(0,8),(0,9),(0,10),(0,11),(0,12),(0,13),(0,14),(0,15),(0,16),(0,17),(0,18),(1,19),(0,20),(0,21)] kr ?_;have U:=H.drew;refine ρd ?_;refine dki 23 (λh=>?_) (λh=>?_)
  .have Z:2*i+2<hi:=by have:=oT h;omega
   have li:fst+(2*i+1)<n:=om
   have lj:fst+(2*i+1)+1<n:=om
   refine ρd ?_;refine dix (fst+(2*i+1)) U.rd li ?_;refine ρd ?_;refine dld (U.cell li) ?_;refine ρd ?_;refine dix (fst+(2*i+1)+1) U.rd lj ?_;refine ρd ?_;refine dld (U.cell lj) ?_;refine ρd ?_;refine Vy (hC.call U li lj) ?_;rintro r a3 ⟨a7,rfl,O⟩;refine⟨O,?_⟩;have H2:=U.ext O;refine ρd ?_;refine ρ ?_;exact Jg _ sB ⟨H2,λ_=>Z⟩
  refine ρd ?_;refine ρ ?_;exact Jg false sB ⟨U,λe=>by cases e⟩
 rintro b w2 ⟨H2,a1⟩;refine Xn (fun (j:Nat)=>[(0,.slice A n c),(2,.int .i64 (hi:Int)),(3,.int .i64 (fst:Int)),(4,.func (.func fid) first cap),(10,.int .i64 (i:Int)),(11,.int .i64 (j:Int))]) (λj w'=>DP w w' base A n c ps q/\i<j/\j<hi) ?_ ?_
 .refine ci (λh=>?_) (λh=>?_)
  .have:=a1 h;refine ρ ?_;exact Jg (2*i+2) sO ⟨H2,om,om⟩
  refine ρ ?_;exact Jg (2*i+1) sO ⟨H2,om,om⟩
 rintro j w3 ⟨H3,Z,a4⟩;have D:fst+i<n:=om
 have G:fst+j<n:=om
 refine ρ ?_;refine dr [(0,0),(0,1),(0,2),(0,3),(0,4),(0,5),(0,6),(0,7),(0,8),(0,9),(0,10),(0,11),(0,12),(1,13),(0,14),(0,15)] kr ?_;have B:=H3.drew;refine ρd ?_;refine ρd ?_;refine dix (fst+i) B.rd D ?_;refine ρd ?_;refine dld (B.cell D) ?_;refine ρd ?_;refine dix (fst+j) B.rd G ?_;refine ρd ?_;refine dld (B.cell G) ?_;refine ρd ?_;refine Vy (hC.call B D G) ?_;rintro r a2 ⟨a6,rfl,J⟩;refine⟨J,?_⟩;have H4:=B.ext J;refine ρd ?_;refine ρ ?_;refine ci (λh=>?_) (λh=>?_)
 .refine ρ ?_;exact Jzd ⟨q,H4⟩
 refine ρ ?_;refine drC 4 [0,1,2,3,4,5,6,7,8,9,10,11,14,15,16,17] [(0,12),(0,13),(0,18),(0,19),(0,20),(2,21),(2,22),(2,23)] kr ?_;have y:=H4.drew;obtain⟨s1,s2,s3,⟨u,s4⟩,s5,s6⟩:=y.swap D G;refine ρp ?_;refine dix (fst+j) y.rd G ?_;refine ρd ?_;refine dld (y.cell G) ?_;refine ρd ?_;refine dix (fst+i) y.rd D ?_;refine ρd ?_;refine dld (y.cell D) ?_;refine ρd ?_;refine dix (fst+i) y.rd D ?_;refine ρd ?_;refine Jd ?_;refine sto (y.cell D) s1 ?_ (hv:=y.one G);refine ρ ?_;refine Qf ?_;refine Jd ?_;refine ix (fst+j) s2 G ?_;refine ρ ?_;refine Qf ?_;refine Jd ?_;refine sto s4 s3 ?_ (hv:=y.one D);refine ρ ?_;exact Ju j (swp z0 q (fst+i) (fst+j)) sB ⟨s5,om⟩ om
theorem Qth(hD:Dat w base (.slice A n c) ps)(hn:ps.length=n)(hmx:n<=140737488355328)(hC:CF w (Value.slice A n c).ownBlock fid first cap ps ds)(hai:ai=(a:Int))(hbi:bi=(b:Int))(hab:a<b)(hb:b<=n):
  Ret Tryz.prog 212 [.slice A n c,.int .i64 ai,.int .i64 bi,.func (.func fid) first cap] w λv w'=>∃ ps',DP w w' base A n c ps ps':=by
 subst hai;subst hbi;refine Jz Tryz.func212 Tryz.ntmps212 rfl kr rfl ?_;refine ρ ?_;refine qn (b-a-1) 2 ?_;refine ρ ?_;refine Qq (fun (i:Nat) (q:List Pr)=>[(0,.slice A n c),(3,.func (.func fid) first cap),(8,.int .i64 (a:Int)),(9,.int .i64 0),(10,.int .i64 ((b:Int)-(a:Int))),(11,.int .i64 ((i:Int)-1))])
  (λi q w'=>DP w w' base A n c ps q/\i<=n) (λi _=>i) ((b-a-1) / 2+1) ps sO ⟨DP.start hD hn,om⟩ ?_
 rintro i q w1 ⟨H,hi⟩;refine ρ ?_;refine ci (λh=>?_) (λh=>?_)
 .have J:0<i:=by have:=oT h;omega
  refine ρ ?_;refine cl (Jpz (lo:=i-1) (hi:=b-a) (fst:=a) (loi:=(i:Int)-1) (hii:=(b:Int)-(a:Int)) H.d H.l hmx (hC.step H) om om rfl om om) ?_;rintro v w2 ⟨G,O⟩;refine ρ ?_;exact Ju (i-1) G sO ⟨H.after O,om⟩ om
 refine ρ ?_;refine Qq (fun (i:Nat) (q:List Pr)=>[(0,.slice A n c),(3,.func (.func fid) first cap),(8,.int .i64 (a:Int)),(9,.int .i64 0),(12,.int .i64 ((i:Int)-1))])
  (λi q w'=>DP w w' base A n c ps q/\i<=b-a) (λi _=>i) (b-a) q sO ⟨H,om⟩ ?_
 rintro i q w1 ⟨H,hi⟩;refine ρ ?_;refine ci (λh=>?_) (λh=>?_)
 .have J:0<i:=by have:=oT h;omega
  have y:a<n:=om
  have B:a+(i-1)<n:=om
  refine ρ ?_;refine drC 4 [0,1,2,3,4,5,6,7,8,9,12,13] [(0,10),(0,11),(0,14),(0,15),(0,16),(2,17),(2,18),(2,19)] kr ?_;have j:=H.drew;obtain⟨s1,s2,Z,⟨u,U⟩,D,s6⟩:=j.swap y B;refine ρp ?_;refine dix (a+(i-1)) j.rd B ?_;refine ρd ?_;refine dld (j.cell B) ?_;refine ρd ?_;refine dix (a) j.rd y ?_;refine ρd ?_;refine dld (j.cell y) ?_;refine ρd ?_;refine dix (a) j.rd y ?_;refine ρd ?_;refine Jd ?_;refine sto (j.cell y) s1 ?_ (hv:=j.one B);refine ρ ?_;refine Qf ?_;refine Jd ?_;refine ix (a+(i-1)) s2 B ?_;refine ρ ?_;refine Qf ?_;refine Jd ?_;refine sto U Z ?_ (hv:=j.one y);refine ρ ?_;refine cl (Jpz (lo:=0) (hi:=i-1) (fst:=a) (loi:=0) (hii:=(i:Int)-1) D.d D.l hmx (hC.step D) rfl om rfl om om) ?_;rintro v w2 ⟨G,O⟩;refine ρ ?_;exact Ju (i-1) G sO ⟨D.after O,om⟩ om
 refine ρ ?_;exact Yx ⟨q,H⟩
open Go.RowKit Pl Go.Wk
variable {cap first:Array Value}{fid:FuncId}{ai bi s:Int}{ds:List Bool}{ps q:List Pr}{a b base c e g n:Nat}{A:Option Addr}{w w0:World}
theorem zInt: Qe Tryz.prog 3=some (.int .i64 0):=kr
theorem zXor: Qe Tryz.prog 326=some (.int .u64 0):=kr
theorem Jgb(H:DP w0 w base A n c ps q)(hmx:n<=140737488355328)(hC:CF w0 (Value.slice A n c).ownBlock fid first cap ps ds)(hB:Blk w g 3 [.int .i64 s])(hg:w0.heap.size<=g)(ha:a<n)(hb:b<n):
  Ret Tryz.prog 250 [.slice A n c,.int .i64 (a:Int),.int .i64 (b:Int),.pointer (some ⟨g,0,none⟩),.func (.func fid) first cap] w λr w'=>∃ x y:Nat,∃ s':Int,r=.tuple #[.int .i64 (x:Int),.int .i64 (y:Int)]/\((x=a/\y=b)∨(x=b/\y=a))/\DP w0 w' base A n c ps q/\Blk w' g 3 [.int .i64 s']:=by
 refine Jz Tryz.func250 Tryz.ntmps250 rfl kr rfl ?_;refine ρ ?_;refine dr [(0,0),(0,1),(0,2),(0,3),(0,4),(0,5),(0,6),(0,7),(0,8),(1,9),(0,10)] kr ?_;have u:=H.drew;refine ρd ?_;refine ρd ?_;refine dix (b) u.rd hb ?_;refine ρd ?_;refine dld (u.cell hb) ?_;refine ρd ?_;refine dix (a) u.rd ha ?_;refine ρd ?_;refine dld (u.cell ha) ?_;refine ρd ?_;refine Vy (hC.call u hb ha) ?_;rintro r D ⟨G,rfl,j⟩;refine⟨j,?_⟩;have B:=u.ext j;refine ρd ?_;refine ρ ?_;have i:=(hB.ext (Ext.refl w).drew).ext j;refine ci (λh=>?_) (λh=>?_)
 .refine ρ ?_;refine ld (i.cell 0) ?_;refine ρ ?_;refine sto (i.cell 0) (i.frozen 0) ?_;refine ρ ?_;exact Xb ⟨b,a,_,rfl,.inr ⟨rfl,rfl⟩,B.box i rfl hg _,i.set 0 _⟩
 refine ρ ?_;exact Xb ⟨a,b,_,rfl,.inl ⟨rfl,rfl⟩,B,i⟩
theorem Qjr(H:DP w0 w base A n c ps q)(hmx:n<=140737488355328)(hC:CF w0 (Value.slice A n c).ownBlock fid first cap ps ds)(hB:Blk w g 3 [.int .i64 s])(hg:w0.heap.size<=g)(ha:a<n)(hb:b<n)(he:e<n):
  Ret Tryz.prog 239 [.slice A n c,.int .i64 (a:Int),.int .i64 (b:Int),.int .i64 (e:Int),.pointer (some ⟨g,0,none⟩),.func (.func fid) first cap] w λr w'=>∃ m:Nat,∃ s':Int,r=.int .i64 (m:Int)/\(m=a∨m=b∨m=e)/\DP w0 w' base A n c ps q/\Blk w' g 3 [.int .i64 s']:=by
 refine Jz Tryz.func239 Tryz.ntmps239 rfl kr rfl ?_;refine ρ ?_;refine cl (Jgb H hmx hC hB hg ha hb) ?_;rintro r w1 ⟨G,D,s1,rfl,e1,U,u⟩;refine ρ ?_;refine cl (Jgb (a:=D) (b:=e) U hmx hC u hg om he) ?_;rintro r w2 ⟨B,e2,s2,rfl,e3,O,j⟩;refine ρ ?_;refine cl (Jgb (a:=G) (b:=B) O hmx hC j hg om om) ?_;rintro r Z ⟨a3,y,s3,rfl,e4,J,i⟩;refine ρ ?_;exact Jq ⟨y,_,rfl,om,J,i⟩
theorem Jgp(H:DP w0 w base A n c ps q)(hmx:n<=140737488355328)(hC:CF w0 (Value.slice A n c).ownBlock fid first cap ps ds)(hB:Blk w g 3 [.int .i64 s])(hg:w0.heap.size<=g)(hai:ai=(a:Int))(ha:0<a)(hb:a+1<n):
  Ret Tryz.prog 238 [.slice A n c,.int .i64 ai,.pointer (some ⟨g,0,none⟩),.func (.func fid) first cap] w λr w'=>∃ m:Nat,∃ s':Int,r=.int .i64 (m:Int)/\(m=a∨m+1=a∨m=a+1)/\DP w0 w' base A n c ps q/\Blk w' g 3 [.int .i64 s']:=by
 subst hai;refine Jz Tryz.func238 Tryz.ntmps238 rfl kr rfl ?_;refine ρ ?_;have u:a-1<n:=om
 have j:((a:Int)-1)=((a-1:Nat):Int):=om
 have y:((a:Int)+1)=((a+1:Nat):Int):=om
 rw[j,y];refine cl (Qjr H hmx hC hB hg u (by omega:a<n) hb) ?_;rintro r w1 ⟨m,D,rfl,j,B,i⟩;refine ρ ?_;exact Jq ⟨m,_,rfl,om,B,i⟩
theorem Xzs(hD:Dat w base (.slice A n c) ps)(hn:ps.length=n)(hmx:n<=140737488355328)(hC:CF w (Value.slice A n c).ownBlock fid first cap ps ds)(hai:ai=(a:Int))(hbi:bi=(b:Int))(hab:a+12<b)(hb:b<=n):
  Ret Tryz.prog 214 [.slice A n c,.int .i64 ai,.int .i64 bi,.func (.func fid) first cap] w λr w'=>∃ m:Nat,∃ z:Int,r=.tuple #[.int .i64 (m:Int),.int .i64 z]/\a<=m/\m<b/\DP w w' base A n c ps ps:=by
 subst hai;subst hbi;refine Jz Tryz.func214 Tryz.ntmps214 rfl kr rfl ?_;refine ρ ?_;refine alc zInt ?_;intro w1 g y u Z;have H1:=(DP.start hD hn).ext y;refine ρ ?_;refine qn (b-a) 4 ?_;refine ρ ?_;refine qn (b-a) 4 ?_;refine ρ ?_;refine qn (b-a) 4 ?_;refine ρ ?_;refine ct ?_ ?_
 .exact decide_eq_true om
 have hq:(b-a) / 4<=(b-a)/\3<=(b-a) / 4/\4*((b-a) / 4)<=b-a:=om
 generalize (b-a) / 4=l4 at hq ⊢
 refine ρ ?_;refine Jng (fun (i j k:Nat)=>[(0,.slice A n c),(3,.func (.func fid) first cap),(11,.pointer (some ⟨g,0,none⟩)),(12,.int .i64 (i:Int)),(13,.int .i64 (j:Int)),(14,.int .i64 (k:Int))])
  (λi j k w'=>DP w w' base A n c ps ps/\(∃ s:Int,Blk w' g 3 [.int .i64 s])/\a<=i/\i<b/\a<=j/\j<b/\a<=k/\k<b) ?_ ?_
 .refine ci (λh=>?_) (λh=>?_)
  .have a1:=oT h;refine ρ ?_;refine cl (Jgp (a:=a+l4) (ai:=(a:Int)+(l4:Int)*1) H1 hmx hC Z u om om om) ?_;rintro r w2 ⟨i,s2,rfl,e2,H2,O⟩;refine ρ ?_;refine cl (Jgp (a:=a+l4*2) (ai:=(a:Int)+(l4:Int)*2) H2 hmx hC O u om om om) ?_;rintro r w3 ⟨j,s3,rfl,e3,H3,J⟩;refine ρ ?_;refine cl (Jgp (a:=a+l4*3) (ai:=(a:Int)+(l4:Int)*3) H3 hmx hC J u om om om) ?_;rintro r w4 ⟨k,s4,rfl,e4,H4,G⟩;refine ρ ?_;exact Jyk i j k sB ⟨H4,⟨_,G⟩,om,om,om,om,om,om⟩
  refine ρ ?_;exact Jyk (a+l4) (a+l4*2) (a+l4*3) sO ⟨H1,⟨_,Z⟩,om,om,om,om,om,om⟩
 rintro i j k w5 ⟨H5,⟨s5,D⟩,h1,h2,h3,h4,h5,h6⟩;refine ρ ?_;refine cl (Qjr H5 hmx hC D u (by omega:i<n) (by omega:j<n) (by omega:k<n)) ?_;rintro r w6 ⟨m,s6,rfl,e6,U,B⟩;refine ρ ?_;refine ld (B.cell 0) ?_;refine ρ ?_;refine ci (λh=>?_) (λh=>?_)
 .refine ρ ?_;exact Xb ⟨m,_,rfl,om,om,U⟩
 refine ρ ?_;refine ci (λh=>?_) (λh=>?_)
 .refine ρ ?_;exact Xb ⟨m,_,rfl,om,om,U⟩
 refine ρ ?_;exact Xb ⟨m,_,rfl,om,om,U⟩
open Go.RowKit Pl Go.Wk
variable {ai bi mi r:Int}{ps q:List Pr}{a b base c g m n:Nat}{A:Option Addr}{w w0:World}
theorem Qvj(op:BinOp)(x y:Int): 0<=bits op .u64 x y/\bits op .u64 x y<=18446744073709551615:=by
 unfold bits;rw[IntKind.wrap_u64];omega
theorem Qyl(H:DP w0 w base A n c ps q)(hB:Blk w g 326 [.int .u64 r])(hg:w0.heap.size<=g):
  Ret Tryz.prog 237 [.pointer (some ⟨g,0,none⟩)] w λv w'=>∃ r',v=.int .u64 r'/\0<=r'/\r'<=18446744073709551615/\DP w0 w' base A n c ps q/\Blk w' g 326 [.int .u64 r']:=by
 refine Jz Tryz.func237 Tryz.ntmps237 rfl kr rfl ?_;refine ρ ?_;refine dr [(0,0),(0,1),(0,2),(0,3),(0,4),(0,5),(0,6),(0,7),(0,8),(2,9)] kr ?_;have b0:=hB.ext (Ext.refl _).drew;have h0:=H.drew;refine ρd ?_;refine dld (b0.cell 0) ?_;refine ρd ?_;refine dld (b0.cell 0) ?_;refine ρd ?_;refine dshl ?_;refine ρd ?_;obtain⟨D,U⟩:∃ z,z=bits .xor .u64 r (IntKind.u64.wrap (r*2^min (13:Int).toNat IntKind.u64.bits)):=⟨_,rfl⟩;refine dkv 10 (u:=.int .u64 D) (congrArg (Value.int .u64) U.symm) ?_;refine Jd ?_;refine sto (b0.cell 0) (b0.frozen 0) ?_;refine ρ ?_;have H1:=h0.box b0 rfl hg (.int .u64 D);have a1:=b0.set 0 (.int .u64 D);refine dr [(0,0),(0,1),(0,2),(0,3),(0,4),(0,5),(0,6),(0,7),(0,8),(2,9)] kr ?_;have y:=a1.ext (Ext.refl _).drew;have h1:=H1.drew;refine ρd ?_;refine dld (y.cell 0) ?_;refine ρd ?_;refine dld (y.cell 0) ?_;refine ρd ?_;refine dshr ?_;refine ρd ?_
 obtain⟨B,O⟩:∃ z,z=bits .xor .u64 D (D.fdiv (2^min (7:Int).toNat IntKind.u64.bits)):=⟨_,rfl⟩;refine dkv 19 (u:=.int .u64 B) (congrArg (Value.int .u64) O.symm) ?_;refine Jd ?_;refine sto (y.cell 0) (y.frozen 0) ?_;refine ρ ?_;have H2:=h1.box y rfl hg (.int .u64 B);have Z:=y.set 0 (.int .u64 B);refine dr [(0,0),(0,1),(0,2),(0,3),(0,4),(0,5),(0,6),(0,7),(0,8),(2,9)] kr ?_;have j:=Z.ext (Ext.refl _).drew;have h2:=H2.drew;refine ρd ?_;refine dld (j.cell 0) ?_;refine ρd ?_;refine dld (j.cell 0) ?_;refine ρd ?_;refine dshl ?_;refine ρd ?_;obtain⟨J,i⟩:∃ z,z=bits .xor .u64 B (IntKind.u64.wrap (B*2^min (17:Int).toNat IntKind.u64.bits)):=⟨_,rfl⟩;refine dkv 28 (u:=.int .u64 J) (congrArg (Value.int .u64) i.symm) ?_;refine Jd ?_;refine sto (j.cell 0) (j.frozen 0) ?_;refine ρ ?_;have H3:=h2.box j rfl hg (.int .u64 J);have G:=j.set 0 (.int .u64 J);refine ld (G.cell 0) ?_;refine ρ ?_;exact Jq ⟨J,rfl,by rw[i];exact(Qvj _ _ _).1,by rw[i];exact(Qvj _ _ _).2,H3,G⟩
theorem Qnr(hmi:mi=(m:Int))(h0:0<m)(hm:m<=140737488355328)(w:World): Ret Tryz.prog 236 [.int .i64 mi] w λv w'=>∃ p:Nat,v=.int .u64 (p:Int)/\0<p/\p<=2*m/\w'=w:=by
 subst hmi;refine Jz Tryz.func236 Tryz.ntmps236 rfl kr rfl ?_;refine ρ ?_;refine kv 4 (u:=.int .u64 (m:Int)) (congrArg (Value.int .u64) (Zt om)) ?_;refine cl (Jmg m om w) ?_;rintro v w' ⟨rfl,rfl⟩;refine ρ ?_;refine Jzw rfl rfl om rfl ?_;obtain⟨D,B⟩:=Ky (x:=m) om;have y:Jw m<=48:=Ys om;have j:2^Jw m=2*2^(Jw m-1):=by rw[<-Nat.pow_succ'];congr 1;omega
 have e:IntKind.u64.wrap (1*2^min ((Jw m:Nat):Int).toNat IntKind.u64.bits)=((2^Jw m:Nat):Int):=by
  have i:min ((Jw m:Nat):Int).toNat IntKind.u64.bits=Jw m:=by simp only[Int.toNat_natCast];exact Nat.min_eq_left (by show Jw m<=64;omega)
  rw[i,Int.one_mul];have:((2^Jw m:Nat):Int)=(2:Int)^Jw m:=by push_cast;rfl
  rw[<-this];exact Zt om
 refine kv 6 (congrArg (Value.int .u64) e) ?_;refine ρ ?_;exact Jq ⟨2^Jw m,rfl,Nat.pow_pos om,om,rfl⟩
theorem Xkg{fid:FuncId}{first cap:Array Value}{ds:List Bool}(hD:Dat w base (.slice A n c) ps)(hn:ps.length=n)(hmx:n<=140737488355328)(hC:CF w (Value.slice A n c).ownBlock fid first cap ps ds)(hai:ai=(a:Int))(hbi:bi=(b:Int))(hab:a+12<b)(hb:b<=n):
  Ret Tryz.prog 213 [.slice A n c,.int .i64 ai,.int .i64 bi,.func (.func fid) first cap] w λv w'=>∃ ps',DP w w' base A n c ps ps':=by
 subst hai;subst hbi;refine Jz Tryz.func213 Tryz.ntmps213 rfl kr rfl ?_;refine ρ ?_;refine ct ?_ ?_
 .exact decide_eq_true om
 refine ρ ?_;refine alc zXor ?_;intro w1 g O hg G;have H1:=(DP.start hD hn).ext O;refine ρ ?_;refine sto (G.cell 0) (G.frozen 0) ?_;have H2:=H1.box G rfl hg (.int .u64 (IntKind.u64.wrap ((b:Int)-(a:Int))));have a4:=G.set 0 (.int .u64 (IntKind.u64.wrap ((b:Int)-(a:Int))));refine ρ ?_;refine cl (Qnr (m:=b-a) (mi:=(b:Int)-(a:Int)) om om om _) ?_;rintro v w' ⟨j,rfl,a9,a8,rfl⟩;refine ρ ?_;refine qn (b-a) 4 ?_;refine ρ ?_;have hq:(b-a) / 4<=(b-a)/\3<=(b-a) / 4/\4*((b-a) / 4)<=b-a:=om
 refine Qq (fun (idx:Nat) (q:List Pr)=>[(0,.slice A n c),(1,.int .i64 (a:Int)),(8,.int .i64 ((b:Int)-(a:Int))),(9,.pointer (some ⟨g,0,none⟩)),(10,.int .u64 (j:Int)),(11,.int .i64 (idx:Int))])
  (λidx q w'=>DP w w' base A n c ps q/\(∃ r:Int,Blk w' g 326 [.int .u64 r])/\a<=idx/\idx<=n) (λidx _=>n-idx) (a+((b-a) / 4)*2-1) ps sO ⟨H2,⟨_,a4⟩,om,om⟩ ?_
 rintro idx q w3 ⟨H3,⟨r3,a3⟩,ab,hi⟩;refine ρ ?_;refine qn (b-a) 4 ?_;refine ρ ?_;refine ci (λh=>?_) (λh=>?_)
 .have a6:idx<=a+((b-a) / 4)*2+1:=by have:=oT h;omega
  refine ρ ?_;refine cl (Qyl H3 a3 hg) ?_;rintro v w4 ⟨J,rfl,U,a7,H4,D⟩;refine ρ ?_;have ho:∃ o:Nat,bits .and .u64 J (IntKind.u64.wrap ((j:Int)-1))=(o:Int)/\o<2*(b-a):=by
   obtain⟨r,rfl⟩:=Int.eq_ofNat_of_zero_le U;have e:IntKind.u64.wrap ((j:Int)-1)=((j-1:Nat):Int):=by rw[Zt om];omega
   rw[e];refine⟨r &&& (j-1),bits_and_u64_nat r (j-1) om om,?_⟩;have:=Nat.and_le_right (n:=r) (m:=j-1);omega
  obtain⟨o,Z,aa⟩:=ho;refine Xn (fun (o:Nat)=>[(0,.slice A n c),(1,.int .i64 (a:Int)),(8,.int .i64 ((b:Int)-(a:Int))),(9,.pointer (some ⟨g,0,none⟩)),(10,.int .u64 (j:Int)),(11,.int .i64 (idx:Int)),(12,.int .i64 (o:Int))]) (λo w'=>DP w w' base A n c ps q/\Blk w' g 326 [.int .u64 J]/\o<b-a) ?_ ?_
  .have a5:IntKind.i64.wrap (bits .and .u64 J (IntKind.u64.wrap ((j:Int)-1)))=(o:Int):=by rw[Z];exact Vn om
   rw[a5];refine ci (λh=>?_) (λh=>?_)
   .have h1:=oT h;refine ρ ?_;exact Jg (o-(b-a)) sO ⟨H4,D,om⟩
   have h1:=oF h;refine ρ ?_;exact Jg o sB ⟨H4,D,om⟩
  rintro o w5 ⟨H5,a2,ho⟩;have y:idx<n:=om
  have B:a+o<n:=om
  refine ρ ?_;refine drC 4 [0,1,2,3,4,5,6,7,8,9,12,13] [(0,10),(0,11),(0,14),(0,15),(0,16),(2,17),(2,18),(2,19)] kr ?_;have i:=H5.drew;obtain⟨s1,s2,s3,⟨u,s4⟩,s5,s6⟩:=i.swap y B;refine ρp ?_;refine dix (a+o) i.rd B ?_;refine ρd ?_;refine dld (i.cell B) ?_;refine ρd ?_;refine dix (idx) i.rd y ?_;refine ρd ?_;refine dld (i.cell y) ?_;refine ρd ?_;refine dix (idx) i.rd y ?_;refine ρd ?_;refine Jd ?_;refine sto (i.cell y) s1 ?_ (hv:=i.one B);refine ρ ?_;refine Qf ?_;refine Jd ?_;refine ix (a+o) s2 B ?_;refine ρ ?_;refine Qf ?_;refine Jd ?_;refine sto s4 s3 ?_ (hv:=i.one y);refine ρ ?_;have b5:=a2.ext (Ext.refl _).drew;have a1:=b5.grown s6 (b5.ne_own i.d.1 rfl);exact Ju (idx+1) (swp z0 q idx (a+o)) sO ⟨s5,⟨_,a1⟩,om,om⟩ om
 refine ρ ?_;exact Yx ⟨q,H3⟩
open Go.RowKit Pl Go.Wk
variable {cap first:Array Value}{fid:FuncId}{ai bi pvi:Int}{ds:List Bool}{ps:List Pr}{a b base c n:Nat}{A:Option Addr}{w:World}
theorem Qlt(hD:Dat w base (.slice A n c) ps)(hn:ps.length=n)(hmx:n<=140737488355328)(hC:CF w (Value.slice A n c).ownBlock fid first cap ps ds){pv:Nat}(hai:ai=(a:Int))(hbi:bi=(b:Int))(hpvi:pvi=(pv:Int))(hab:a<b)(hb:b<=n)(hp0:a<=pv)(hp1:pv<b):
  Ret Tryz.prog 217 [.slice A n c,.int .i64 ai,.int .i64 bi,.int .i64 pvi,.func (.func fid) first cap] w λv w'=>∃ ps',DP w w' base A n c ps ps'/\∃ m:Nat,v=.int .i64 (m:Int)/\a<m/\m<=b:=by
 subst hai;subst hbi;subst hpvi;refine Jz Tryz.func217 Tryz.ntmps217 rfl kr rfl ?_;refine ρ ?_;have H:=DP.start hD hn;have la:a<n:=om
 have lp:pv<n:=om
 refine drC 4 [0,1,2,3,4,5,8,9] [(0,6),(0,7),(0,10),(0,11),(0,12),(2,13),(2,14),(2,15)] kr ?_;have J:=H.drew;obtain⟨s1,s2,s3,⟨u,s4⟩,s5,s6⟩:=J.swap la lp;refine ρp ?_;refine dix (pv) J.rd lp ?_;refine ρd ?_;refine dld (J.cell lp) ?_;refine ρd ?_;refine dix (a) J.rd la ?_;refine ρd ?_;refine dld (J.cell la) ?_;refine ρd ?_;refine dix (a) J.rd la ?_;refine ρd ?_;refine Jd ?_;refine sto (J.cell la) s1 ?_ (hv:=J.one lp);refine ρ ?_;refine Qf ?_;refine Jd ?_;refine ix (pv) s2 lp ?_;refine ρ ?_;refine Qf ?_;refine Jd ?_;refine sto s4 s3 ?_ (hv:=J.one la);refine ρ ?_;refine Xf (fun (i j:Nat) (q:List Pr)=>[(0,.slice A n c),(1,.int .i64 (a:Int)),(2,.int .i64 (b:Int)),(4,.func (.func fid) first cap),(11,.int .i64 (i:Int)),(12,.int .i64 (j:Int))]) (λi j q w'=>DP w w' base A n c ps q/\a<i/\i<=b/\a<=j/\j<b) (λi j _=>b+j-i) (a+1) (b-1) _ sO ⟨s5,om⟩ ?_;clear s1 s2 s3 s4 s5 s6 u J H
 rintro i0 j0 q w1 ⟨H,a5⟩;refine ρ ?_;refine Js (fun (i:Nat)=>[(0,.slice A n c),(1,.int .i64 (a:Int)),(2,.int .i64 (b:Int)),(4,.func (.func fid) first cap),(12,.int .i64 (j0:Int)),(11,.int .i64 (i:Int))]) (λi w'=>DP w w' base A n c ps q/\i0<=i/\a<i/\i<=b) (λi=>b-i) i0 sO ⟨H,om⟩ ?_;rintro i wS ⟨HS,a7⟩;refine ρ ?_;refine Xn (fun (t:Bool)=>[(0,.slice A n c),(1,.int .i64 (a:Int)),(2,.int .i64 (b:Int)),(4,.func (.func fid) first cap),(12,.int .i64 (j0:Int)),(11,.int .i64 (i:Int)),(47,.bool t)]) (λt w'=>DP w w' base A n c ps q/\(t=true->i<=j0)) ?_ ?_
 .skip
  refine dr [(0,0),(0,1),(0,2),(0,3),(0,4),(0,5),(0,6),(0,7),(0,8),(0,9),(0,10),(0,11),(0,12),(1,13),(0,14),(0,15),(0,16)] kr ?_;have y:=HS.drew;refine ρd ?_;refine dki 34 (λh=>?_) (λh=>?_)
  .have hT:i<=j0:=by have:=oT h;omega
   have U:a<n:=om
   have O:i<n:=om
   refine ρd ?_;refine dix (a) y.rd U ?_;refine ρd ?_;refine dld (y.cell U) ?_;refine ρd ?_;refine dix (i) y.rd O ?_;refine ρd ?_;refine dld (y.cell O) ?_;refine ρd ?_;refine Vy (hC.call y U O) ?_;rintro r a3 ⟨a4,rfl,D⟩;refine⟨D,?_⟩;have HT:=y.ext D;refine ρd ?_;refine ρ ?_;exact Jg _ sB ⟨HT,λ_=>hT⟩
  refine ρd ?_;refine ρ ?_;exact Jg false sB ⟨y,λe=>by cases e⟩
 rintro t a2 ⟨a1,G⟩;refine ci (λh=>?_) (λh=>?_)
 .have:=G h;refine ρ ?_;exact Jp (i+1) sO ⟨a1,om⟩ om
 clear G HS h;refine ρ ?_;refine Js (fun (j:Nat)=>[(0,.slice A n c),(1,.int .i64 (a:Int)),(2,.int .i64 (b:Int)),(4,.func (.func fid) first cap),(11,.int .i64 (i:Int)),(12,.int .i64 (j:Int))]) (λj w'=>DP w w' base A n c ps q/\j<=j0/\a<=j/\j<b) (λj=>j) j0 sO ⟨a1,om⟩ ?_;rintro j wS ⟨HS,a6⟩;refine ρ ?_;refine Xn (fun (t:Bool)=>[(0,.slice A n c),(1,.int .i64 (a:Int)),(2,.int .i64 (b:Int)),(4,.func (.func fid) first cap),(11,.int .i64 (i:Int)),(12,.int .i64 (j:Int)),(65,.bool t)]) (λt w'=>DP w w' base A n c ps q/\(t=true->i<=j)) ?_ ?_
 .skip
  refine dr [(0,0),(0,1),(0,2),(0,3),(0,4),(0,5),(0,6),(0,7),(0,8),(0,9),(0,10),(0,11),(0,12),(1,13),(0,14),(0,15)] kr ?_;have y:=HS.drew;refine ρd ?_;refine dki 53 (λh=>?_) (λh=>?_)
  .have hT:i<=j:=by have:=oT h;omega
   have U:a<n:=om
   have O:j<n:=om
   refine ρd ?_;refine dix (a) y.rd U ?_;refine ρd ?_;refine dld (y.cell U) ?_;refine ρd ?_;refine dix (j) y.rd O ?_;refine ρd ?_;refine dld (y.cell O) ?_;refine ρd ?_;refine Vy (hC.call y U O) ?_;rintro r a3 ⟨a4,rfl,D⟩;refine⟨D,?_⟩;have HT:=y.ext D;refine ρd ?_;refine ρ ?_;exact Jg _ sB ⟨HT,λ_=>hT⟩
  refine ρd ?_;refine ρ ?_;exact Jg false sB ⟨y,λe=>by cases e⟩
 rintro t a2 ⟨Z,G⟩;refine ci (λh=>?_) (λh=>?_)
 .have:=G h;refine ρ ?_;exact Jp (j-1) sO ⟨Z,om⟩ om
 clear G HS h;refine ρ ?_;refine ci (λh=>?_) (λh=>?_)
 .refine ρ ?_;exact Jq ⟨q,Z,i,rfl,om,om⟩
 have hT:i<=j:=by have:=oF h;omega
 have li:i<n:=om
 have lj:j<n:=om
 refine ρ ?_;refine drC 4 [0,1,2,3,4,5,8,9] [(0,6),(0,7),(0,10),(0,11),(0,12),(2,13),(2,14),(2,15)] kr ?_;have B:=Z.drew;obtain⟨s1,s2,s3,⟨u,s4⟩,s5,s6⟩:=B.swap li lj;refine ρp ?_;refine dix (j) B.rd lj ?_;refine ρd ?_;refine dld (B.cell lj) ?_;refine ρd ?_;refine dix (i) B.rd li ?_;refine ρd ?_;refine dld (B.cell li) ?_;refine ρd ?_;refine dix (i) B.rd li ?_;refine ρd ?_;refine Jd ?_;refine sto (B.cell li) s1 ?_ (hv:=B.one lj);refine ρ ?_;refine Qf ?_;refine Jd ?_;refine ix (j) s2 lj ?_;refine ρ ?_;refine Qf ?_;refine Jd ?_;refine sto s4 s3 ?_ (hv:=B.one li);refine ρ ?_;exact Qn (i+1) (j-1) _ sO ⟨s5,om⟩ om
theorem Qls(hD:Dat w base (.slice A n c) ps)(hn:ps.length=n)(hmx:n<=140737488355328)(hC:CF w (Value.slice A n c).ownBlock fid first cap ps ds){pv:Nat}(hai:ai=(a:Int))(hbi:bi=(b:Int))(hpvi:pvi=(pv:Int))(hab:a<b)(hb:b<=n)(hp0:a<=pv)(hp1:pv<b):
  Ret Tryz.prog 218 [.slice A n c,.int .i64 ai,.int .i64 bi,.int .i64 pvi,.func (.func fid) first cap] w λv w'=>∃ ps',DP w w' base A n c ps ps'/\∃(m:Nat) (t:Bool),v=.tuple #[.int .i64 (m:Int),.bool t]/\a<=m/\m<b:=by
 subst hai;subst hbi;subst hpvi;refine Jz Tryz.func218 Tryz.ntmps218 rfl kr rfl ?_;refine ρ ?_;have H:=DP.start hD hn;have la:a<n:=om
 have lp:pv<n:=om
 refine drC 4 [0,1,2,3,4,5,8,9] [(0,6),(0,7),(0,10),(0,11),(0,12),(2,13),(2,14),(2,15)] kr ?_;have Hd:=H.drew;obtain⟨s1,s2,s3,⟨u,s4⟩,s5,s6⟩:=Hd.swap la lp;refine ρp ?_;refine dix (pv) Hd.rd lp ?_;refine ρd ?_;refine dld (Hd.cell lp) ?_;refine ρd ?_;refine dix (a) Hd.rd la ?_;refine ρd ?_;refine dld (Hd.cell la) ?_;refine ρd ?_;refine dix (a) Hd.rd la ?_;refine ρd ?_;refine Jd ?_;refine sto (Hd.cell la) s1 ?_ (hv:=Hd.one lp);refine ρ ?_;refine Qf ?_;refine Jd ?_;refine ix (pv) s2 lp ?_;refine ρ ?_;refine Qf ?_;refine Jd ?_;refine sto s4 s3 ?_ (hv:=Hd.one la);refine ρ ?_;generalize hq:swp z0 ps a pv=q at s5
 have H5:=s5;clear s1 s2 s3 s4 s5 s6 u Hd H hq;obtain⟨i0,a8⟩:∃ i0:Nat,i0=a+1:=⟨_,rfl⟩;obtain⟨Z,a7⟩:∃ Z:Nat,Z=b-1:=⟨_,rfl⟩;refine Js (fun (i:Nat)=>[(0,.slice A n c),(1,.int .i64 (a:Int)),(2,.int .i64 (b:Int)),(4,.func (.func fid) first cap),(13,.int .i64 (Z:Int)),(12,.int .i64 (i:Int))]) (λi w'=>DP w w' base A n c ps q/\i0<=i/\a<i/\i<=b) (λi=>b-i) i0 sO ⟨H5,om⟩ ?_;rintro i wS ⟨HS,a6⟩;refine ρ ?_;refine Xn (fun (t:Bool)=>[(0,.slice A n c),(1,.int .i64 (a:Int)),(2,.int .i64 (b:Int)),(4,.func (.func fid) first cap),(13,.int .i64 (Z:Int)),(12,.int .i64 (i:Int)),(47,.bool t)]) (λt w'=>DP w w' base A n c ps q/\(t=true->i<=Z)) ?_ ?_
 .skip
  refine dr [(0,0),(0,1),(0,2),(0,3),(0,4),(0,5),(0,6),(0,7),(0,8),(0,9),(0,10),(0,11),(0,12),(1,13),(0,14),(0,15)] kr ?_;have B:=HS.drew;refine ρd ?_;refine dki 35 (λh=>?_) (λh=>?_)
  .have hT:i<=Z:=by have:=oT h;omega
   have lx:i<n:=om
   have ly:a<n:=om
   refine ρd ?_;refine dix (i) B.rd lx ?_;refine ρd ?_;refine dld (B.cell lx) ?_;refine ρd ?_;refine dix (a) B.rd ly ?_;refine ρd ?_;refine dld (B.cell ly) ?_;refine ρd ?_;refine Vy (hC.call B lx ly) ?_;rintro r a3 ⟨a4,rfl,D⟩;refine⟨D,?_⟩;have HT:=B.ext D;refine ρd ?_;refine ρ ?_;exact Jg _ sB ⟨HT,λ_=>hT⟩
  refine ρd ?_;refine ρ ?_;exact Jg false sB ⟨B,λe=>by cases e⟩
 rintro t a2 ⟨a1,O⟩;refine ci (λh=>?_) (λh=>?_)
 .have:=O h;refine ρ ?_;exact Jp (i+1) sO ⟨a1,om⟩ om
 clear O HS h;refine ρ ?_;refine Js (fun (j:Nat)=>[(0,.slice A n c),(1,.int .i64 (a:Int)),(2,.int .i64 (b:Int)),(4,.func (.func fid) first cap),(12,.int .i64 (i:Int)),(13,.int .i64 (j:Int))]) (λj w'=>DP w w' base A n c ps q/\j<=Z/\a<=j/\j<b) (λj=>j) Z sO ⟨a1,om⟩ ?_;rintro j wS ⟨HS,a5⟩;refine ρ ?_;refine Xn (fun (t:Bool)=>[(0,.slice A n c),(1,.int .i64 (a:Int)),(2,.int .i64 (b:Int)),(4,.func (.func fid) first cap),(12,.int .i64 (i:Int)),(13,.int .i64 (j:Int)),(66,.bool t)]) (λt w'=>DP w w' base A n c ps q/\(t=true->i<=j)) ?_ ?_
 .skip
  refine dr [(0,0),(0,1),(0,2),(0,3),(0,4),(0,5),(0,6),(0,7),(0,8),(0,9),(0,10),(0,11),(0,12),(1,13),(0,14),(0,15),(0,16)] kr ?_;have B:=HS.drew;refine ρd ?_;refine dki 53 (λh=>?_) (λh=>?_)
  .have hT:i<=j:=by have:=oT h;omega
   have lx:j<n:=om
   have ly:a<n:=om
   refine ρd ?_;refine dix (j) B.rd lx ?_;refine ρd ?_;refine dld (B.cell lx) ?_;refine ρd ?_;refine dix (a) B.rd ly ?_;refine ρd ?_;refine dld (B.cell ly) ?_;refine ρd ?_;refine Vy (hC.call B lx ly) ?_;rintro r a3 ⟨a4,rfl,D⟩;refine⟨D,?_⟩;have HT:=B.ext D;refine ρd ?_;refine ρ ?_;exact Jg _ sB ⟨HT,λ_=>hT⟩
  refine ρd ?_;refine ρ ?_;exact Jg false sB ⟨B,λe=>by cases e⟩
 rintro t a2 ⟨U,O⟩;refine ci (λh=>?_) (λh=>?_)
 .have:=O h;refine ρ ?_;exact Jp (j-1) sO ⟨U,om⟩ om
 clear O HS h;refine ρ ?_;have G:a<n:=om
 have J:j<n:=om
 refine ci (λh=>?_) (λh=>?_)
 .refine ρ ?_;refine drC 4 [0,1,2,3,4,5,8,9] [(0,6),(0,7),(0,10),(0,11),(0,12),(2,13),(2,14),(2,15)] kr ?_;have y:=U.drew;obtain⟨s1,s2,s3,⟨u,s4⟩,s5,s6⟩:=y.swap J G;refine ρp ?_;refine dix (a) y.rd G ?_;refine ρd ?_;refine dld (y.cell G) ?_;refine ρd ?_;refine dix (j) y.rd J ?_;refine ρd ?_;refine dld (y.cell J) ?_;refine ρd ?_;refine dix (j) y.rd J ?_;refine ρd ?_;refine Jd ?_;refine sto (y.cell J) s1 ?_ (hv:=y.one G);refine ρ ?_;refine Qf ?_;refine Jd ?_;refine ix (a) s2 G ?_;refine ρ ?_;refine Qf ?_;refine Jd ?_;refine sto s4 s3 ?_ (hv:=y.one J);refine ρ ?_;exact Xb ⟨_,s5,j,true,rfl,om,om⟩
 have hT:i<=j:=by have:=oF h;omega
 have li:i<n:=om
 refine ρ ?_;refine drC 4 [0,1,2,3,4,5,8,9] [(0,6),(0,7),(0,10),(0,11),(0,12),(2,13),(2,14),(2,15)] kr ?_;have y:=U.drew;obtain⟨s1,s2,s3,⟨u,s4⟩,s5,s6⟩:=y.swap li J;refine ρp ?_;refine dix (j) y.rd J ?_;refine ρd ?_;refine dld (y.cell J) ?_;refine ρd ?_;refine dix (i) y.rd li ?_;refine ρd ?_;refine dld (y.cell li) ?_;refine ρd ?_;refine dix (i) y.rd li ?_;refine ρd ?_;refine Jd ?_;refine sto (y.cell li) s1 ?_ (hv:=y.one J);refine ρ ?_;refine Qf ?_;refine Jd ?_;refine ix (j) s2 J ?_;refine ρ ?_;refine Qf ?_;refine Jd ?_;refine sto s4 s3 ?_ (hv:=y.one li);refine ρ ?_;refine Xf (fun (i j:Nat) (q:List Pr)=>[(0,.slice A n c),(1,.int .i64 (a:Int)),(2,.int .i64 (b:Int)),(4,.func (.func fid) first cap),(12,.int .i64 (i:Int)),(13,.int .i64 (j:Int))]) (λi j q w'=>DP w w' base A n c ps q/\a<i/\i<=b/\a<=j/\j<b) (λi j _=>b+j-i) (i+1) (j-1) _ sO ⟨s5,om⟩ ?_;clear s1 s2 s3 s4 s5 s6 u y U a1 a6 a5 a8 a7 G J li hT
 clear h q i0 Z i j H5;rintro i0 Z q w1 ⟨H,a9⟩;refine ρ ?_;refine Js (fun (i:Nat)=>[(0,.slice A n c),(1,.int .i64 (a:Int)),(2,.int .i64 (b:Int)),(4,.func (.func fid) first cap),(13,.int .i64 (Z:Int)),(12,.int .i64 (i:Int))]) (λi w'=>DP w w' base A n c ps q/\i0<=i/\a<i/\i<=b) (λi=>b-i) i0 sO ⟨H,om⟩ ?_;rintro i wS ⟨HS,a6⟩;refine ρ ?_;refine Xn (fun (t:Bool)=>[(0,.slice A n c),(1,.int .i64 (a:Int)),(2,.int .i64 (b:Int)),(4,.func (.func fid) first cap),(13,.int .i64 (Z:Int)),(12,.int .i64 (i:Int)),(120,.bool t)]) (λt w'=>DP w w' base A n c ps q/\(t=true->i<=Z)) ?_ ?_
 .skip
  refine dr [(0,0),(0,1),(0,2),(0,3),(0,4),(0,5),(0,6),(0,7),(0,8),(0,9),(0,10),(0,11),(0,12),(1,13),(0,14),(0,15)] kr ?_;have B:=HS.drew;refine ρd ?_;refine dki 108 (λh=>?_) (λh=>?_)
  .have hT:i<=Z:=by have:=oT h;omega
   have lx:i<n:=om
   have ly:a<n:=om
   refine ρd ?_;refine dix (i) B.rd lx ?_;refine ρd ?_;refine dld (B.cell lx) ?_;refine ρd ?_;refine dix (a) B.rd ly ?_;refine ρd ?_;refine dld (B.cell ly) ?_;refine ρd ?_;refine Vy (hC.call B lx ly) ?_;rintro r a3 ⟨a4,rfl,D⟩;refine⟨D,?_⟩;have HT:=B.ext D;refine ρd ?_;refine ρ ?_;exact Jg _ sB ⟨HT,λ_=>hT⟩
  refine ρd ?_;refine ρ ?_;exact Jg false sB ⟨B,λe=>by cases e⟩
 rintro t a2 ⟨a1,O⟩;refine ci (λh=>?_) (λh=>?_)
 .have:=O h;refine ρ ?_;exact Jp (i+1) sO ⟨a1,om⟩ om
 clear O HS h;refine ρ ?_;refine Js (fun (j:Nat)=>[(0,.slice A n c),(1,.int .i64 (a:Int)),(2,.int .i64 (b:Int)),(4,.func (.func fid) first cap),(12,.int .i64 (i:Int)),(13,.int .i64 (j:Int))]) (λj w'=>DP w w' base A n c ps q/\j<=Z/\a<=j/\j<b) (λj=>j) Z sO ⟨a1,om⟩ ?_;rintro j wS ⟨HS,a5⟩;refine ρ ?_;refine Xn (fun (t:Bool)=>[(0,.slice A n c),(1,.int .i64 (a:Int)),(2,.int .i64 (b:Int)),(4,.func (.func fid) first cap),(12,.int .i64 (i:Int)),(13,.int .i64 (j:Int)),(139,.bool t)]) (λt w'=>DP w w' base A n c ps q/\(t=true->i<=j)) ?_ ?_
 .skip
  refine dr [(0,0),(0,1),(0,2),(0,3),(0,4),(0,5),(0,6),(0,7),(0,8),(0,9),(0,10),(0,11),(0,12),(1,13),(0,14),(0,15),(0,16)] kr ?_;have B:=HS.drew;refine ρd ?_;refine dki 126 (λh=>?_) (λh=>?_)
  .have hT:i<=j:=by have:=oT h;omega
   have lx:j<n:=om
   have ly:a<n:=om
   refine ρd ?_;refine dix (j) B.rd lx ?_;refine ρd ?_;refine dld (B.cell lx) ?_;refine ρd ?_;refine dix (a) B.rd ly ?_;refine ρd ?_;refine dld (B.cell ly) ?_;refine ρd ?_;refine Vy (hC.call B lx ly) ?_;rintro r a3 ⟨a4,rfl,D⟩;refine⟨D,?_⟩;have HT:=B.ext D;refine ρd ?_;refine ρ ?_;exact Jg _ sB ⟨HT,λ_=>hT⟩
  refine ρd ?_;refine ρ ?_;exact Jg false sB ⟨B,λe=>by cases e⟩
 rintro t a2 ⟨U,O⟩;refine ci (λh=>?_) (λh=>?_)
 .have:=O h;refine ρ ?_;exact Jp (j-1) sO ⟨U,om⟩ om
 clear O HS h;refine ρ ?_;have G:a<n:=om
 have J:j<n:=om
 refine ci (λh=>?_) (λh=>?_)
 .refine ρ ?_;refine drC 4 [0,1,2,3,4,5,8,9] [(0,6),(0,7),(0,10),(0,11),(0,12),(2,13),(2,14),(2,15)] kr ?_;have y:=U.drew;obtain⟨s1,s2,s3,⟨u,s4⟩,s5,s6⟩:=y.swap J G;refine ρp ?_;refine dix (a) y.rd G ?_;refine ρd ?_;refine dld (y.cell G) ?_;refine ρd ?_;refine dix (j) y.rd J ?_;refine ρd ?_;refine dld (y.cell J) ?_;refine ρd ?_;refine dix (j) y.rd J ?_;refine ρd ?_;refine Jd ?_;refine sto (y.cell J) s1 ?_ (hv:=y.one G);refine ρ ?_;refine Qf ?_;refine Jd ?_;refine ix (a) s2 G ?_;refine ρ ?_;refine Qf ?_;refine Jd ?_;refine sto s4 s3 ?_ (hv:=y.one J);refine ρ ?_;exact Xb ⟨_,s5,j,false,rfl,om,om⟩
 have hT:i<=j:=by have:=oF h;omega
 have li:i<n:=om
 refine ρ ?_;refine drC 4 [0,1,2,3,4,5,8,9] [(0,6),(0,7),(0,10),(0,11),(0,12),(2,13),(2,14),(2,15)] kr ?_;have y:=U.drew;obtain⟨s1,s2,s3,⟨u,s4⟩,s5,s6⟩:=y.swap li J;refine ρp ?_;refine dix (j) y.rd J ?_;refine ρd ?_;refine dld (y.cell J) ?_;refine ρd ?_;refine dix (i) y.rd li ?_;refine ρd ?_;refine dld (y.cell li) ?_;refine ρd ?_;refine dix (i) y.rd li ?_;refine ρd ?_;refine Jd ?_;refine sto (y.cell li) s1 ?_ (hv:=y.one J);refine ρ ?_;refine Qf ?_;refine Jd ?_;refine ix (j) s2 J ?_;refine ρ ?_;refine Qf ?_;refine Jd ?_;refine sto s4 s3 ?_ (hv:=y.one li);refine ρ ?_;exact Qn (i+1) (j-1) _ sO ⟨s5,om⟩ om
theorem Qlr(hD:Dat w base (.slice A n c) ps)(hn:ps.length=n)(hmx:n<=140737488355328)(hC:CF w (Value.slice A n c).ownBlock fid first cap ps ds)(hai:ai=(a:Int))(hbi:bi=(b:Int))(hab:a+1<b)(hb:b<=n):
  Ret Tryz.prog 216 [.slice A n c,.int .i64 ai,.int .i64 bi,.func (.func fid) first cap] w λv w'=>∃ ps',DP w w' base A n c ps ps'/\∃ t:Bool,v=.bool t:=by
 subst hai;subst hbi;refine Jz Tryz.func216 Tryz.ntmps216 rfl kr rfl ?_;refine ρ ?_;refine Xf (fun (k i:Nat) (q:List Pr)=>[(0,.slice A n c),(1,.int .i64 (a:Int)),(2,.int .i64 (b:Int)),(3,.func (.func fid) first cap),(9,.int .i64 (i:Int)),(10,.int .i64 (k:Int))]) (λk i q w'=>DP w w' base A n c ps q/\a<i/\i<=b/\k<=5) (λk _ _=>5-k) 0 (a+1) ps sO ⟨DP.start hD hn,om⟩ ?_;rintro k i0 q w1 ⟨H,a5⟩;refine ρ ?_;refine ci (λh=>?_) (λh=>?_);rotate_left
 .refine ρ ?_;exact Jq ⟨q,H,false,rfl⟩
 have hk:k<5:=by have:=oT h;omega
 clear h;refine ρ ?_;refine Js (fun (i:Nat)=>[(0,.slice A n c),(1,.int .i64 (a:Int)),(2,.int .i64 (b:Int)),(3,.func (.func fid) first cap),(10,.int .i64 (k:Int)),(9,.int .i64 (i:Int))]) (λi w'=>DP w w' base A n c ps q/\i0<=i/\a<i/\i<=b) (λi=>b-i) i0 sO ⟨H,om⟩ ?_;rintro i wS ⟨HS,a7⟩;refine ρ ?_;refine Xn (fun (t:Bool)=>[(0,.slice A n c),(1,.int .i64 (a:Int)),(2,.int .i64 (b:Int)),(3,.func (.func fid) first cap),(10,.int .i64 (k:Int)),(9,.int .i64 (i:Int)),(36,.bool t)]) (λt w'=>DP w w' base A n c ps q/\(t=true->i<b)) ?_ ?_
 .skip
  refine dr [(0,0),(0,1),(0,2),(0,3),(0,4),(0,5),(0,6),(0,7),(0,8),(0,9),(0,10),(0,11),(0,12),(0,13),(1,14),(0,15),(0,16),(0,17)] kr ?_;have G:=HS.drew;refine ρd ?_;refine dki 22 (λh=>?_) (λh=>?_)
  .have hT:i<b:=by have:=oT h;omega
   have U:i<n:=om
   have ly:i-1<n:=om
   refine ρd ?_;refine dix (i) G.rd U ?_;refine ρd ?_;refine dld (G.cell U) ?_;refine ρd ?_;refine dix (i-1) G.rd ly ?_;refine ρd ?_;refine dld (G.cell ly) ?_;refine ρd ?_;refine Vy (hC.call G U ly) ?_;rintro r a1 ⟨a3,rfl,B⟩;refine⟨B,?_⟩;have HT:=G.ext B;refine ρd ?_;refine ρ ?_;exact Jg _ sB ⟨HT,λ_=>hT⟩
  refine ρd ?_;refine ρ ?_;exact Jg false sB ⟨G,λe=>by cases e⟩
 rintro t a4 ⟨O,a2⟩;refine ci (λh=>?_) (λh=>?_)
 .have:=a2 h;refine ρ ?_;exact Jp (i+1) sO ⟨O,om⟩ om
 clear a2 HS h;refine ρ ?_;refine ci (λh=>?_) (λh=>?_)
 .refine ρ ?_;exact Jq ⟨q,O,true,rfl⟩
 have a6:i<b:=by have:=Uj h;omega
 clear h;refine ρ ?_;refine ci (λh=>?_) (λh=>?_)
 .refine ρ ?_;exact Jq ⟨q,O,false,rfl⟩
 clear h;have U:i<n:=om
 have ly:i-1<n:=om
 refine ρ ?_;refine drC 4 [0,1,2,3,4,5,6,7,10,11] [(0,8),(0,9),(0,12),(0,13),(0,14),(2,15),(2,16),(2,17)] kr ?_;have y:=O.drew;obtain⟨s1,s2,s3,⟨u,s4⟩,s5,s6⟩:=y.swap U ly;refine ρp ?_;refine dix (i-1) y.rd ly ?_;refine ρd ?_;refine dld (y.cell ly) ?_;refine ρd ?_;refine dix (i) y.rd U ?_;refine ρd ?_;refine dld (y.cell U) ?_;refine ρd ?_;refine dix (i) y.rd U ?_;refine ρd ?_;refine Jd ?_;refine sto (y.cell U) s1 ?_ (hv:=y.one ly);refine ρ ?_;refine Qf ?_;refine Jd ?_;refine ix (i-1) s2 ly ?_;refine ρ ?_;refine Qf ?_;refine Jd ?_;refine sto s4 s3 ?_ (hv:=y.one U);refine ρ ?_;have H5:=s5;clear s1 s2 s3 s4 s5 s6 u y O H;generalize swp z0 q i (i-1)=q5 at H5
 refine Xn (fun (q:List Pr)=>[(0,.slice A n c),(1,.int .i64 (a:Int)),(2,.int .i64 (b:Int)),(3,.func (.func fid) first cap),(9,.int .i64 (i:Int)),(10,.int .i64 (k:Int))]) (λq w'=>DP w w' base A n c ps q) ?_ ?_
 .refine ci (λh=>?_) (λh=>?_);rotate_left
  .refine ρ ?_;exact Jg _ sB H5
  refine ρ ?_;refine Qq (fun (m:Nat) (q:List Pr)=>[(0,.slice A n c),(1,.int .i64 (a:Int)),(2,.int .i64 (b:Int)),(3,.func (.func fid) first cap),(9,.int .i64 (i:Int)),(10,.int .i64 (k:Int)),(11,.int .i64 (m:Int))]) (λm q w'=>DP w w' base A n c ps q/\m<n) (λm _=>m) (i-1) q5 sO ⟨H5,om⟩ ?_;rintro m q w2 ⟨H,Z⟩;refine ρ ?_;refine ci (λh=>?_) (λh=>?_);rotate_left
  .refine ρ ?_;exact Jg _ sB H
  have h1:1<=m:=by have:=oT h;omega
  have D:m-1<n:=om
  refine ρ ?_;refine dr [(0,0),(0,1),(0,2),(0,3),(0,4),(0,5),(0,6),(0,7),(0,8),(0,9),(1,10),(0,11),(0,12)] kr ?_;have J:=H.drew;refine ρd ?_;refine ρd ?_;refine dix (m) J.rd Z ?_;refine ρd ?_;refine dld (J.cell Z) ?_;refine ρd ?_;refine dix (m-1) J.rd D ?_;refine ρd ?_;refine dld (J.cell D) ?_;refine ρd ?_;refine Vy (hC.call J Z D) ?_;rintro r a1 ⟨a3,rfl,B⟩;refine⟨B,?_⟩;have HT:=J.ext B;refine ρd ?_;refine ρ ?_;refine ci (λh=>?_) (λh=>?_)
  .refine ρ ?_;exact Jg _ sB HT
  refine ρ ?_;refine drC 4 [0,1,2,3,4,5,6,7,10,11] [(0,8),(0,9),(0,12),(0,13),(0,14),(2,15),(2,16),(2,17)] kr ?_;have j:=HT.drew;obtain⟨s1,s2,s3,⟨u,s4⟩,s5,s6⟩:=j.swap Z D;refine ρp ?_;refine dix (m-1) j.rd D ?_;refine ρd ?_;refine dld (j.cell D) ?_;refine ρd ?_;refine dix (m) j.rd Z ?_;refine ρd ?_;refine dld (j.cell Z) ?_;refine ρd ?_;refine dix (m) j.rd Z ?_;refine ρd ?_;refine Jd ?_;refine sto (j.cell Z) s1 ?_ (hv:=j.one D);refine ρ ?_;refine Qf ?_;refine Jd ?_;refine ix (m-1) s2 D ?_;refine ρ ?_;refine Qf ?_;refine Jd ?_;refine sto s4 s3 ?_ (hv:=j.one Z);refine ρ ?_;exact Ju (m-1) _ sO ⟨s5,om⟩ om
 clear H5 q5;rintro q5 w5 H5;refine ρ ?_;refine ci (λh=>?_) (λh=>?_);rotate_left
 .refine ρ ?_;exact Qn (k+1) i q5 sO ⟨H5,om⟩ om
 refine ρ ?_;refine Qq (fun (m:Nat) (q:List Pr)=>[(0,.slice A n c),(1,.int .i64 (a:Int)),(2,.int .i64 (b:Int)),(3,.func (.func fid) first cap),(9,.int .i64 (i:Int)),(10,.int .i64 (k:Int)),(12,.int .i64 (m:Int))]) (λm q w'=>DP w w' base A n c ps q/\0<m/\m<=b) (λm _=>b-m) (i+1) q5 sO ⟨H5,om⟩ ?_;rintro m q w2 ⟨H,Z⟩;refine ρ ?_;refine ci (λh=>?_) (λh=>?_);rotate_left
 .refine ρ ?_;exact Qn (k+1) i q sO ⟨H,om⟩ om
 have h1:m<n:=by have:=oT h;omega
 have h2:m<b:=by have:=oT h;omega
 have D:m-1<n:=om
 refine ρ ?_;refine dr [(0,0),(0,1),(0,2),(0,3),(0,4),(0,5),(0,6),(0,7),(0,8),(0,9),(1,10),(0,11),(0,12)] kr ?_;have J:=H.drew;refine ρd ?_;refine ρd ?_;refine dix (m) J.rd h1 ?_;refine ρd ?_;refine dld (J.cell h1) ?_;refine ρd ?_;refine dix (m-1) J.rd D ?_;refine ρd ?_;refine dld (J.cell D) ?_;refine ρd ?_;refine Vy (hC.call J h1 D) ?_;rintro r a1 ⟨a3,rfl,B⟩;refine⟨B,?_⟩;have HT:=J.ext B;refine ρd ?_;refine ρ ?_;refine ci (λh=>?_) (λh=>?_)
 .refine ρ ?_;exact Qn (k+1) i q sO ⟨HT,om⟩ om
 refine ρ ?_;refine drC 4 [0,1,2,3,4,5,6,7,10,11] [(0,8),(0,9),(0,12),(0,13),(0,14),(2,15),(2,16),(2,17)] kr ?_;have j:=HT.drew;obtain⟨s1,s2,s3,⟨u,s4⟩,s5,s6⟩:=j.swap h1 D;refine ρp ?_;refine dix (m-1) j.rd D ?_;refine ρd ?_;refine dld (j.cell D) ?_;refine ρd ?_;refine dix (m) j.rd h1 ?_;refine ρd ?_;refine dld (j.cell h1) ?_;refine ρd ?_;refine dix (m) j.rd h1 ?_;refine ρd ?_;refine Jd ?_;refine sto (j.cell h1) s1 ?_ (hv:=j.one D);refine ρ ?_;refine Qf ?_;refine Jd ?_;refine ix (m-1) s2 D ?_;refine ρ ?_;refine Qf ?_;refine Jd ?_;refine sto s4 s3 ?_ (hv:=j.one h1);refine ρ ?_;exact Ju (m+1) _ sO ⟨s5,om⟩ om
open Go.RowKit Pl Go.Wk
variable {ps q q':List Pr}{base c n:Nat}{A:Option Addr}{w w' w0:World}
theorem DP.same(h:DP w0 w base A n c ps q)(k:DP w w' base A n c q q): DP w0 w' base A n c ps q:=h.after k
theorem DP.ins{a b:Nat}(h:DP w0 w base A n c ps q)(k1:Dat w' base (.slice A n c) q')(k2:Seg z0 a b q q')(k3:w.grownBy w' (Value.slice A n c).ownBlock): DP w0 w' base A n c ps q' :=
 ⟨k1,k2.perm.trans h.p,Xy h.g k3,by rw[k2.len];exact h.l⟩
theorem Qll: ∀(m:Nat) {w:World} {base:Nat} {A:Option Addr} {n c:Nat} {fid:FuncId} {first cap:Array Value} {ps:List Pr} {ds:List Bool} (hD:Dat w base (.slice A n c) ps) (hn:ps.length=n) (hmx:n<=140737488355328) (hC:CF w (Value.slice A n c).ownBlock fid first cap ps ds) {a b:Nat} {ai bi lim:Int} (hai:ai=(a:Int)) (hbi:bi=(b:Int)) (hab:a<=b) (hb:b<=n) (hl:0<=lim/\lim<=64) (hm:b-a<=m),
  Ret Tryz.prog 187 [.slice A n c,.int .i64 ai,.int .i64 bi,.int .i64 lim,.func (.func fid) first cap] w λv w'=>∃ ps',DP w w' base A n c ps ps':=by
 intro m;induction m using Nat.strongRecOn with
 | ind m ih=>
 intro w base A n c fid first cap ps ds hD hn hmx hC a b ai bi lim hai hbi hab hb hl hm
 subst hai;subst hbi;refine Jz Tryz.func187 Tryz.ntmps187 rfl kr rfl ?_;refine ρ ?_;refine Kh (fun (U:Nat×Nat) (lt:Int×Bool) (wp:Bool) (q:List Pr)=>[(0,.slice A n c),(1,.int .i64 (U.1:Int)),(2,.int .i64 (U.2:Int)),(3,.int .i64 lt.1),(4,.func (.func fid) first cap),(10,.bool lt.2),(11,.bool wp)])
  (λU lt wp q w'=>DP w w' base A n c ps q/\U.1<=U.2/\U.2<=n/\U.2-U.1<=m/\0<=lt.1/\lt.1<=64) (λU _ _ _=>U.2-U.1) (a,b) (lim,true) true ps sB ⟨DP.start hD hn,om,om,om,om,om⟩ ?_
 clear hD hab hb hm;rintro⟨a,b⟩ ⟨lim,wb⟩ y q w1 ⟨H,hab,hb,hm,O,J⟩;simp only at hab hb hm O J;refine ρ ?_;refine ci (λh=>?_) (λh=>?_)
 .refine ρ ?_;refine cl (Qxf (ai:=(a:Int)) (bi:=(b:Int)) H.d H.l rfl rfl hb om hmx (hC.step H).pack) ?_;rintro v w2 ⟨B,k1,k2,k3,k4⟩;refine ρ ?_;exact Jzd ⟨B,H.ins k1 k2 k4⟩
 have a1:a+12<b:=by have:=oF h;omega
 clear h;refine ρ ?_;refine ci (λh=>?_) (λh=>?_)
 .refine ρ ?_;refine cl (Qth (a:=a) (b:=b) H.d H.l hmx (hC.step H) rfl rfl om hb) ?_;rintro v w2 ⟨B,j⟩;refine ρ ?_;exact Jzd ⟨B,H.after j⟩
 have a5:lim≠0:=Uj h;clear h;refine ρ ?_;refine Gn (fun (lim:Int) (q:List Pr)=>[(0,.slice A n c),(1,.int .i64 (a:Int)),(2,.int .i64 (b:Int)),(3,.int .i64 lim),(4,.func (.func fid) first cap),(10,.bool wb),(11,.bool y),(12,.int .i64 ((b:Int)-(a:Int)))]) (λlim q w'=>DP w w' base A n c ps q/\0<=lim/\lim<=64) ?_ ?_
 .refine ci (λh=>?_) (λh=>?_)
  .refine ρ ?_;refine cl (Xkg (a:=a) (b:=b) H.d H.l hmx (hC.step H) rfl rfl a1 hb) ?_;rintro v w2 ⟨B,j⟩;refine ρ ?_;exact Xe (lim-1) B sB ⟨H.after j,om,om⟩
  refine ρ ?_;exact Xe lim q sB ⟨H,om,om⟩
 clear H O J a5 lim q;rintro lim q w2 ⟨H,O,J⟩;refine ρ ?_;refine cl (Xzs (a:=a) (b:=b) H.d H.l hmx (hC.step H) rfl rfl a1 hb) ?_;rintro v w3 ⟨pv,i,rfl,G,D,j⟩;have u:=H.same j;clear H j;refine ρ ?_;refine Jng (fun (pv:Nat) (i:Int) (q:List Pr)=>[(0,.slice A n c),(1,.int .i64 (a:Int)),(2,.int .i64 (b:Int)),(3,.int .i64 lim),(4,.func (.func fid) first cap),(10,.bool wb),(11,.bool y),(12,.int .i64 ((b:Int)-(a:Int))),(13,.int .i64 (pv:Int)),(14,.int .i64 i)]) (λpv i q w'=>DP w w' base A n c ps q/\a<=pv/\pv<b) ?_ ?_
 .refine ci (λh=>?_) (λh=>?_)
  .refine ρ ?_;refine cl (Qgn (a:=a) (b:=b) u.d u.l hmx (hC.step u) rfl rfl om hb) ?_;rintro v w2 ⟨B,j⟩;refine ρ ?_;exact Jyk (b-1-(pv-a)) 1 B sO ⟨u.after j,om,om⟩
  refine ρ ?_;exact Jyk pv i q sB ⟨u,G,D⟩
 clear u G D pv i q;rintro pv i q w3 ⟨H,G,D⟩;refine ρ ?_;refine Gj (fun (t:Bool)=>[(0,.slice A n c),(1,.int .i64 (a:Int)),(2,.int .i64 (b:Int)),(3,.int .i64 lim),(4,.func (.func fid) first cap),(10,.bool wb),(11,.bool y),(12,.int .i64 ((b:Int)-(a:Int))),(13,.int .i64 (pv:Int)),(75,.bool t)]) (λt w'=>DP w w' base A n c ps q) ?_ ?_
 .refine ki 69 (λh=>?_) (λh=>?_)
  .refine ρ ?_;refine ki 72 (λh=>?_) (λh=>?_)
   .refine ρ ?_;exact Jg _ sB H
   refine ρ ?_;exact Jg _ sB H
  refine ρ ?_;exact Jg _ sB H
 clear H;rintro t w4 H;refine Xn (fun (q:List Pr)=>[(0,.slice A n c),(1,.int .i64 (a:Int)),(2,.int .i64 (b:Int)),(3,.int .i64 lim),(4,.func (.func fid) first cap),(10,.bool wb),(11,.bool y),(12,.int .i64 ((b:Int)-(a:Int))),(13,.int .i64 (pv:Int))]) (λq w'=>DP w w' base A n c ps q) ?_ ?_
 .refine ci (λh=>?_) (λh=>?_)
  .refine ρ ?_;refine cl (Qlr (a:=a) (b:=b) H.d H.l hmx (hC.step H) rfl rfl om hb) ?_;rintro v w2 ⟨B,j,t2,rfl⟩;refine ρ ?_;refine ci (λh=>?_) (λh=>?_)
   .refine ρ ?_;exact Jzd ⟨B,H.after j⟩
   refine ρ ?_;exact Jg _ sB (H.after j)
  refine ρ ?_;exact Jg _ sB H
 clear H q;rintro q w5 H;refine ρ ?_;refine Xn (fun (t:Bool)=>[(0,.slice A n c),(1,.int .i64 (a:Int)),(2,.int .i64 (b:Int)),(3,.int .i64 lim),(4,.func (.func fid) first cap),(10,.bool wb),(11,.bool y),(12,.int .i64 ((b:Int)-(a:Int))),(13,.int .i64 (pv:Int)),(97,.bool t)]) (λt w'=>DP w w' base A n c ps q) ?_ ?_
 .skip
  refine dr [(0,0),(0,1),(0,2),(0,3),(0,4),(0,5),(0,6),(0,7),(0,8),(0,9),(0,10),(0,11),(0,12),(1,13),(0,14),(0,15),(0,16)] kr ?_;have Hd:=H.drew;refine ρd ?_;refine dki 83 (λh=>?_) (λh=>?_)
  .have hT:0<a:=by have:=oT h;omega
   have lx:a-1<n:=om
   have ly:pv<n:=om
   refine ρd ?_;refine dix (a-1) Hd.rd lx ?_;refine ρd ?_;refine dld (Hd.cell lx) ?_;refine ρd ?_;refine dix (pv) Hd.rd ly ?_;refine ρd ?_;refine dld (Hd.cell ly) ?_;refine ρd ?_;refine Vy (hC.call Hd lx ly) ?_;rintro r a6 ⟨a7,rfl,Z⟩;refine⟨Z,?_⟩;have HT:=Hd.ext Z;refine ρd ?_;refine ρ ?_;exact Jg _ sB HT
  refine ρd ?_;refine ρ ?_;exact Jg false sB Hd
 clear H;rintro t2 w6 H;refine ci (λh=>?_) (λh=>?_)
 .refine ρ ?_;refine cl (Qlt (a:=a) (b:=b) (pv:=pv) H.d H.l hmx (hC.step H) rfl rfl rfl om hb G D) ?_;rintro v w2 ⟨B,j,mid,rfl,a4,a3⟩;refine ρ ?_;exact Ym (mid,b) (lim,wb) y B sB ⟨H.after j,by simp only;omega,by simp only;omega,by simp only;omega,by simp only;omega,by simp only;omega⟩ (by simp only;omega)
 refine ρ ?_;refine cl (Qls (a:=a) (b:=b) (pv:=pv) H.d H.l hmx (hC.step H) rfl rfl rfl om hb G D) ?_;rintro v w7 ⟨B,j,mid,a2,rfl,a4,a3⟩;have u:=H.after j;clear H j;refine ρ ?_;refine qn (b-a) 8 ?_;refine ρ ?_;refine ci (λh=>?_) (λh=>?_)
 .refine ρ ?_;refine cl (ih (mid-a) om u.d u.l hmx (hC.step u) (a:=a) (b:=mid) rfl rfl om om ⟨O,J⟩ (Nat.le_refl _)) ?_;rintro v w8 ⟨q3,H4⟩;refine ρ ?_;exact Ym (mid+1,b) (lim,_) a2 q3 sO ⟨u.after H4,by simp only;omega,by simp only;omega,by simp only;omega,by simp only;omega,by simp only;omega⟩ (by simp only;omega)
 refine ρ ?_;refine cl (ih (b-(mid+1)) om u.d u.l hmx (hC.step u) (a:=mid+1) (b:=b) (ai:=(mid:Int)+1) om rfl om om ⟨O,J⟩ (Nat.le_refl _)) ?_;rintro v w8 ⟨q3,H4⟩;refine ρ ?_;exact Ym (a,mid) (lim,_) a2 q3 sO ⟨u.after H4,by simp only;omega,by simp only;omega,by simp only;omega,by simp only;omega,by simp only;omega⟩ (by simp only;omega)
end Go.Proofs.YtebiphhfkdbpfaaGreatDoor
namespace Go.Wk
open Go.RowKit
variable {cs xs:List Value}{base e m n:Nat}{N N':Nat->Prop}{g:Option Nat}{v x:Value}{a w w':World}
structure GrN(N:Nat->Prop)(w w':World): Prop where
 os:w'.os=w.os
 tape:w'.tape=w.tape
 output:w'.output=w.output
 size:w.heap.size<=w'.heap.size
 block:∀ k,k<w.heap.size->¬ N k->w'.heap[k]?=w.heap[k]?
theorem GrN.refl(N:Nat->Prop)(w:World): GrN N w w:=⟨rfl,rfl,rfl,Nat.le_refl _,λ_ _ _=>rfl⟩
theorem GrN.ext(h:Ext w w'): GrN N w w':=⟨h.os,h.tape,h.output,h.size,λk i _=>h.block k i⟩
theorem GrN.trans{N:Nat->Prop}{a b c:World}(h:GrN N a b)(k:GrN N b c): GrN N a c :=
 ⟨k.os.trans h.os,k.tape.trans h.tape,k.output.trans h.output,Nat.le_trans h.size k.size,λj i hn=>(k.block j (nM i h.size) hn).trans (h.block j i hn)⟩
theorem GrN.by(h:w.grownBy w' g)(hg:∀ k,g=some k->N k): GrN N w w':=⟨h.os,h.tape,h.output,h.size,λk i hn=>h.block k i (λe=>hn (hg k e.symm))⟩
theorem GrN.set{p:Addr}(u:Value)(hp:N p.block): GrN N w (w.setCell p u):=by
 refine⟨rfl,rfl,rfl,by simp[World.setCell],λk i hn=>Below.heap_setCell w p u k ?_⟩;grind
theorem GrN.mono(h:GrN N w w')(hN:∀ k,k<w.heap.size->N k->N' k): GrN N' w w':=⟨h.os,h.tape,h.output,h.size,λk i hn=>h.block k i (λe=>hn (hN k i e))⟩
theorem GrN.old(h:GrN N w w')(hx:Ext a w)(hN:∀ k,N k->a.heap.size<=k): Ext a w' :=
 ⟨h.os.trans hx.os,h.tape.trans hx.tape,h.output.trans hx.output,Nat.le_trans hx.size h.size,λk i=>(h.block k (nM i hx.size) (λe=>by have:=hN k e;omega)).trans (hx.block k i)⟩
theorem GrN.toExt(h:GrN (λ_=>False) w w'): Ext w w':=⟨h.os,h.tape,h.output,h.size,λk i=>h.block k i (λe=>e)⟩
def Off(N:Nat->Prop)(w:World)(Φ:World->Prop): Prop:=∀ w',GrN N w w'->Φ w'
section
variable {N N':Nat->Prop} {w w':World} {Φ Ψ:World->Prop}
theorem Off.here(h:Off N w Φ): Φ w:=h w (GrN.refl N w)
theorem Off.gr(h:Off N w Φ)(hg:GrN N w w'): Off N w' Φ:=λi j=>h i (hg.trans j)
theorem Off.ext(h:Off N w Φ)(hx:Ext w w'): Off N w' Φ:=h.gr (GrN.ext hx)
theorem Off.mono(h:Off N w Φ)(hN:∀ k,k<w.heap.size->N' k->N k): Off N' w Φ:=λw' i=>h w' (i.mono hN)
theorem Off.imp(h:Off N w Φ)(hi:∀ u,Φ u->Ψ u): Off N w Ψ:=λw' i=>hi w' (h w' i)
theorem Off.and(h:Off N w Φ)(k:Off N w Ψ): Off N w (λu=>Φ u/\Ψ u):=λw' i=>⟨h w' i,k w' i⟩
theorem Off.grown(h:Off N w Φ)(hg:w.grownBy w' g)(hN:∀ k,g=some k->N k): Off N w' Φ:=h.gr (GrN.by hg hN)
theorem Off.set(h:Off N w Φ){p:Addr}(u:Value)(hp:N p.block): Off N (w.setCell p u) Φ:=h.gr (GrN.set u hp)
theorem Off.old{a:World}(hΦ:∀ u,Ext a u->Φ u)(hx:Ext a w)(hN:∀ k,N k->a.heap.size<=k): Off N w Φ:=λw' i=>hΦ w' (i.old hx hN)
theorem Ud{sz:Nat}{A:Option Addr}(h:Rd w sz A n cs)(hg:GrN N w w')(hA:0<cs.length->∀ ad,A=some ad->¬ N ad.block): Rd w' sz A n cs :=
 ⟨h.1,λh0=>by
  obtain⟨ad,e,i,B⟩:=h.2 h0;refine⟨ad,e,Nat.lt_of_lt_of_le i hg.size,λj u y=>?_⟩;rw[<-B j u y];exact World.cell?_of_block (by rw[Uo];exact hg.block _ i (hA h0 ad e))⟩
theorem Jr{g:Nat}{t:TypeId}(h:Blk w g t cs)(hg:GrN N w w')(hn:¬ N g): Blk w' g t cs:=(hg.block g h.lt hn).trans h
theorem Qj{sz:Nat}(h:w.ownsRow base e sz v m xs)(hg:GrN N w w')(hn:∀ g,v.ownBlock=some g->¬ N g): w'.ownsRow base e sz v m xs:=by
 rcases h with⟨B,⟨rfl,rfl⟩|⟨g,y,u,rfl,O,G,j,D,J,ht⟩⟩
 .exact⟨B,.inl ⟨rfl,rfl⟩⟩
 refine⟨B,.inr ⟨g,y,u,rfl,O,?_,j,D,J,ht⟩⟩;have i:g<w.heap.size:=by grind
 rw[hg.block g i (hn g rfl)];exact G
theorem Jkq{sz:Nat}(h:w.ownsRow base e sz v m xs)(hn:∀ g,v.ownBlock=some g->¬ N g): Off N w (λu=>u.ownsRow base e sz v m xs):=λw' i=>Qj h i hn
end
theorem Xh{P:Program}{al:AL}{tt:TT}[h:Tab P tt]{fn:Func}{Φ:Value->World->Prop}{c t t1 b:Nat}{k:TK}(hb:Blk w b t cs)(hp:Φ (.tuple #[.agg cs.toArray,x]) w)(hr:fn.results = #[.cell c t,.tmp t1]:=by rfl)(ht:tk tt t=some k:=by rfl)(hk:k.desc=.invalid:=by rfl)(hs:k.size=cs.length:=by rfl)(hc:lk al c=some (.pointer (some ⟨b,0,none⟩)):=by rfl)(h1:lk al t1=some x:=by rfl):
  QX n (Yk P fn Φ) .ret al w :=
 Jzg (rs:=[.cell c t,.tmp t1]) (vs:=[.agg cs.toArray,x]) hr ⟨⟨_,hc,Jjd h.ok ht hk hs (λj u i=>hb.at i)⟩,h1,trivial⟩ rfl hp
end Go.Wk
namespace Go.Proofs.YtebiphhfkdbpfaaGreatDoor
open Go.RowKit Pl Go.Wk
attribute [local irreducible] WC WL QX WD WDB WP
variable {r:List V}{N N':Nat->Prop}{w:World}
def RowX(w:World)(N:Nat->Prop)(v:Value)(r:List V): Prop:=∃ A c,v=.slice A r.length c/\r.length<=c/\r.length<=1100000/\RdR w A r/\(r≠[]->∀ ad,A=some ad->¬ N ad.block)
def one(g:Option Nat)(k:Nat): Prop:=g=some k
theorem RowX.v{v:Value}(h:RowX w N v r): RowV w v r:=by
 obtain⟨A,c,y,u,j,i,_⟩:=h;exact⟨A,c,y,u,j,i⟩
theorem RowX.ext{w w':World}{N:Nat->Prop}{v:Value}{r:List V}(h:RowX w N v r)(hx:Ext w w'): RowX w' N v r:=by
 obtain⟨A,c,B,y,u,j,i⟩:=h;exact⟨A,c,B,y,u,j.ext hx,i⟩
theorem RowX.mono{v:Value}(h:RowX w N v r)(hN:∀ k,k<w.heap.size->N' k->N k): RowX w N' v r:=by
 obtain⟨A,c,B,y,u,j,i⟩:=h;refine⟨A,c,B,y,u,j,λh0 D e hn=>i h0 D e (hN _ ?_ hn)⟩;grind [Rd.isome,List.length_pos_iff.2]
theorem RowX.grown{w w':World}{N:Nat->Prop}{g:Option Nat}{v:Value}{r:List V}(h:RowX w N v r)(hg:w.grownBy w' g)(hN:∀ k,g=some k->N k): RowX w' N v r:=by
 obtain⟨A,c,y,u,j,B,i⟩:=h;refine⟨A,c,y,u,j,?_,i⟩;by_cases h0:r=[]
 .subst h0;exact Rd.nil
 repeat grind [Rd.grown]
theorem RowX.nil(w:World)(N:Nat->Prop): RowX w N (.slice none 0 0) []:=⟨none,0,rfl,by simp,by simp,Rd.nil,λh=>absurd rfl h⟩
theorem RowV.off{v:Value}(h:RowV w v r)(hg:∀ k,N k->w.heap.size<=k): RowX w N v r:=by
 obtain⟨A,c,y,u,j,i⟩:=h;refine⟨A,c,y,u,j,i,λh0 D e B=>?_⟩;grind [Rd.isome,List.length_pos_iff.2]
def RowsV(w:World)(v:Value)(ls:List (List V)): Prop:=∃(ps:List Pr) (A:Option Addr) (c:Nat),ls=ps.map (·.2)/\v=.slice A ps.length c/\ps.length<=c/\ps.length<=1100000/\Rd w 1 A ps.length (ps.map (·.1))/\∀ p∈ps,RowV w p.1 p.2
theorem RowsV.ext{w w':World}{v:Value}{ls:List (List V)}(h:RowsV w v ls)(hx:Ext w w'): RowsV w' v ls:=by
 obtain⟨ps,A,c,G,D,B,y,u,j⟩:=h;exact⟨ps,A,c,G,D,B,y,u.ext hx,λp i=>(j p i).ext hx⟩
theorem RowsV.nil(w:World)(A:Option Addr)(c:Nat): RowsV w (.slice A 0 c) []:=⟨[],A,c,rfl,rfl,by simp,by simp,Rd.nil,λp i=>by cases i⟩
theorem RowV.one{v:Value}(h:RowV w v r): v.oneCell'=true:=by obtain⟨A,c,rfl,_⟩:=h;rfl
theorem Jlr{v:Value}(h:RowV w v r)(N:Nat->Prop)(hg:∀ k,N k->k<w.heap.size):
  Ret Tryz.prog 127 [v] w λv' w'=>RowX w' N v' r/\Ext w w':=by
 obtain⟨A,c,rfl,J,h3,G⟩:=h;refine Jz Tryz.func127 Tryz.ntmps127 rfl kr rfl ?_;refine ρ ?_;refine snil ?_;refine ρ ?_;refine ci (λh=>?_) (λh=>?_)
 .have Z:A=none:=by simpa using h
  subst Z;have hn:r.length=0:=by
   rcases Nat.eq_zero_or_pos r.length with h0|h0
   .exact h0
   obtain⟨O,J,_⟩:=G.isome h0 om;cases J
  obtain rfl:=List.eq_nil_of_length_eq_zero hn;refine ρ ?_;exact Jq ⟨RowX.nil w N,Ext.refl w⟩
 refine ρ ?_;refine bsl Xkf ?_;intro w1 b j D B;refine ρ ?_;refine apo j EV (B.own (n:=0) D rfl (Nat.zero_le _)) (G.ext j) (Qgg r) (by unfold maxLen;omega) om ?_;intro v2 w2 i y _ _;obtain⟨A2,c2,rfl,u,U⟩:=Jv i;refine ρ ?_;rw[Nat.zero_add]at i u ⊢;refine Jq ⟨⟨A2,c2,rfl,u,h3,Rd.own i,λ_ O e=>?_⟩,y⟩;subst e;intro e2;have h4:=hg _ e2;have h5:=(U O.block rfl).1;omega
theorem Pr.rep(n:Nat): (List.replicate n ((.slice none 0 0,[]):Pr)).map (·.1)=List.replicate n (.slice none 0 0):=by simp
def Srt(ds:List Bool)(ls:List (List V)): Prop:=ls.Pairwise λa b=>Jf a b ds<=0
theorem Jpt{ds:List Bool}{ps:List Pr}(h:SOn z0 (fP ds) ps 0 ps.length): Srt ds (ps.map (·.2)):=by
 unfold Srt;rw[List.pairwise_map,List.pairwise_iff_getElem];intro i j hi y u;have:=h i j (Nat.zero_le _) u y;rw[Ql z0 ps hi,Ql z0 ps y]at this;exact this
end Go.Proofs.YtebiphhfkdbpfaaGreatDoor
namespace Go.Proofs.YtebiphhfkdbpfaaGreatDoor
open Pl
variable {ds:List Bool}{i j k:Nat}
abbrev Row:= List V
def Lt(ds:List Bool)(ls:List Row): Prop:=ls.Pairwise λa b=>Jf a b ds<0
def Zn(ds:List Bool)(ls m:List Row): Prop:=Lt ds m/\∀ x,x∈m↔x∈ls
theorem Jgv(ds:List Bool)(a:Row): ¬ Jf a a ds<0:=by rw[Il];omega
theorem Qrl{a b:Row}(h:Jf a b ds<0): ¬ Jf b a ds<0:=by grind [Jlq]
theorem Jqx{ds:List Bool}: ∀ {l m:List Row},Lt ds l->Lt ds m->(∀ x,x∈l↔x∈m)->l=m
 | [],[],_,_,_=>rfl
 | [],b::m,_,_,h=>absurd ((h b).2 (mC ..)) (by simp)
 | a::l,[],_,_,h=>absurd ((h a).1 (mC ..)) (by simp)
 | a::l,b::m,h1,h2,h=>by
  have p1:=List.pairwise_cons.1 h1;have p2:=List.pairwise_cons.1 h2;have hab:a=b:=by
   rcases List.mem_cons.1 ((h a).1 (mC ..)) with e|e
   .exact e
   rcases List.mem_cons.1 ((h b).2 (mC ..)) with e2|e2
   .exact e2.symm
   exact absurd (p1.1 _ e2) (Qrl (p2.1 _ e))
  subst hab;congr 1
  refine Jqx p1.2 p2.2 λx=>?_;have hx:=h x;constructor
  .intro hm;rcases List.mem_cons.1 (hx.1 (List.mem_cons_of_mem _ hm)) with e|e
   .subst e;exact absurd (p1.1 _ hm) (Jgv ds x)
   exact e
  intro hm;rcases List.mem_cons.1 (hx.2 (List.mem_cons_of_mem _ hm)) with e|e
  .subst e;exact absurd (p2.1 _ hm) (Jgv ds x)
  exact e
def ddS(out:List Row)(x:Row): List Row:=if out.getLast?=some x then out else out++[x]
def ddF(l:List Row): List Row:=l.foldl ddS []
theorem Jlk(l:List Row)(x:Row): ddF (l++[x])=ddS (ddF l) x:=by simp[ddF,List.foldl_append]
theorem Qkn(out:List Row)(x:Row): (ddS out x).getLast?=some x:=by
 unfold ddS;split
 .assumption
 simp
theorem getLast_mem'{l:List Row}{x:Row}(h:l.getLast?=some x): x∈l:=by grind
theorem Jlj{ds:List Bool}: ∀(l out:List Row),Lt ds out->(∀ a∈out,∀ b∈l,Jf a b ds<=0)->Srt ds l->Lt ds (l.foldl ddS out)/\∀ x,x∈l.foldl ddS out↔(x∈out∨x∈l)
 | [],out,h,_,_=>⟨h,λx=>by simp⟩
 | y::l,out,h,hle,hs=>by
  have p:=List.pairwise_cons.1 hs;simp only[List.foldl_cons];by_cases e:out.getLast?=some y
  .have hy:=getLast_mem' e;have e1:ddS out y=out:=by grind [ddS]
   rw[e1];obtain⟨k1,k2⟩:=Jlj l out h (λa ha b hb=>hle a ha b (List.mem_cons_of_mem _ hb)) p.2;grind
  have e1:ddS out y=out++[y]:=by unfold ddS;rw[if_neg e]
  rw[e1];have hlt:∀ a∈out,Jf a y ds<0:=by
   intro a ha;have h1:=hle a ha y (mC ..);rcases Int.lt_or_eq_of_le h1 with h2|h2
   .exact h2
   exfalso
   have:=Jck _ _ _ h2;subst this
   -- a is in out,and everything in out is below a;so a is the last
   obtain⟨z,hz⟩:∃ z,out.getLast?=some z:=by grind
   rw[List.getLast?_eq_some_iff]at hz;obtain⟨ys,rfl⟩:=hz;rcases List.mem_append.1 ha with h3|h3
   .have h4:=(List.pairwise_append.1 h).2.2 _ h3 z (by simp);have h5:=hle z (by simp) a (mC ..);exact absurd ((Jwx ds).lt_le h4 h5) (Jgv ds a)
   repeat grind
  obtain⟨k1,k2⟩:=Jlj l (out++[y]) (List.pairwise_append.2 ⟨h,List.pairwise_singleton _ _,λa ha b hb=>by grind⟩) (λa ha b hb=>by grind) p.2;grind
theorem Qkm: ∀(l out:List Row),(l.foldl ddS out).length<=out.length+l.length
 | [],out=>by simp
 | y::l,out=>by
  simp only[List.foldl_cons];have:=Qkm l (ddS out y);have h2:(ddS out y).length<=out.length+1:=by unfold ddS;split<;>simp
  grind
theorem Jwv(l:List Row): (ddF l).length<=l.length:=by grind [Qkm,ddF]
theorem Qkq{l:List Row}(h:Srt ds l): Zn ds l (ddF l):=by
 obtain⟨u,j⟩:=Jlj l [] List.Pairwise.nil (λa i=>by cases i) h;exact⟨u,λx=>(j x).trans (by simp)⟩
theorem Qkp{l:List Row}(hk:k<l.length): ddF (l.take (k+1))=if k≠0/\l.getD (k-1) []=l.getD k [] then ddF (l.take k) else ddF (l.take k)++[l.getD k []]:=by
 rw[List.take_succ_eq_append_getElem hk,Jlk,<-Ql [] l hk];unfold ddS;by_cases h0:k=0
 .grind [ddF]
 have i:k-1<l.length:=om
 have e:ddF (l.take k)=ddS (ddF (l.take (k-1))) (l.getD (k-1) []):=by
  have:=List.take_succ_eq_append_getElem i;grind [Jlk,Ql]
 grind [Qkn]
def cnt(ds:List Bool)(l:List Row)(r:Row): Nat:=(l.filter λx=>decide (Jf x r ds<0)).length
theorem cnt_le(ds:List Bool)(l:List Row)(r:Row): cnt ds l r<=l.length:=List.length_filter_le _ _
theorem Lt.at{l:List Row}(h:Lt ds l)(hij:i<j)(hj:j<l.length): Jf (l.getD i []) (l.getD j []) ds<0:=by
 have:=List.pairwise_iff_getElem.1 h i j om hj hij;grind
open Go.RowKit Pl Go.Wk
attribute [local irreducible] WC WL QX WD WDB WP
variable {ls:List Row}{base i:Nat}{v:Value}{w:World}
theorem Xkc(v:Value)(w:World)(A:Option Addr)(n c:Nat)(hv:v=.slice A n c): (Instr.buildSlice 78 1 #[(0,v)]).run Tryz.prog w=.ok (.slice (some ⟨w.heap.size,0,none⟩) 1 1) (w.alloc (.cells [v].toArray 85)):=by
 subst hv;kernel_rfl
theorem Jwd{ps:List Pr}: (ps.map (·.2)).getD i []=(ps.getD i z0).2:=by
 simp only[List.getD,List.getElem?_map];cases ps[i]?<;>rfl
def own(base:Nat)(v:Value)(k:Nat): Prop:=k<base∨v.ownBlock=some k
def OwnR(w:World)(base:Nat)(v:Value)(ls:List Row): Prop:=∃ ps:List Pr,ls=ps.map (·.2)/\w.ownsRow base 85 1 v ps.length (ps.map (·.1))/\∀ p∈ps,RowX w (own base v) p.1 p.2
theorem OwnR.nil(w:World)(base:Nat): OwnR w base (.slice none 0 0) []:=⟨[],rfl,Xr _ _ _ _,λp i=>by cases i⟩
theorem OwnR.ext{w w':World}{base:Nat}{v:Value}{ls:List Row}(h:OwnR w base v ls)(hx:Ext w w'): OwnR w' base v ls:=by
 obtain⟨ps,y,u,j⟩:=h;exact⟨ps,y,Jh u hx,λp i=>(j p i).ext hx⟩
theorem OwnR.rows(h:OwnR w base v ls)(hm:ls.length<=1100000): RowsV w v ls:=by
 obtain⟨ps,rfl,i,y⟩:=h;obtain⟨A,c,rfl,u,_⟩:=Jv i;exact⟨ps,A,c,rfl,rfl,u,by simpa using hm,Rd.own i,λp j=>(y p j).v⟩
theorem OwnR.form(h:OwnR w base v ls): ∃ A c,v=.slice A ls.length c:=by
 obtain⟨ps,rfl,j,i⟩:=h;grind [Jv]
theorem OwnR.lt(h:OwnR w base v ls): ∀ k,v.ownBlock=some k->base<=k/\k<w.heap.size:=by
 obtain⟨ps,rfl,j,i⟩:=h;grind [Jv]
theorem OwnR.grown{w w':World}{base g:Nat}{v:Value}{ls:List Row}(h:OwnR w base v ls)(hg:w.grownBy w' (some g))(hb:g<base): OwnR w' base v ls:=by
 obtain⟨ps,y,u,j⟩:=id h;refine⟨ps,y,World.ownsRow.kept u hg ?_,λp i=>(j p i).grown hg (λk B=>.inl (by grind))⟩;cases hv:v.ownBlock with
 | none=>exact .inl rfl
 | some k=>exact .inr (λe=>by injection e with e;have:=(h.lt k hv).1;omega)
theorem RowsV.parts(h:RowsV w v ls): ∃ A c,v=.slice A ls.length c/\ls.length<=c/\ls.length<=1100000/\∃ cs:List Value,Rd w 1 A ls.length cs/\∀ i,i<ls.length->∃ u,cs[i]?=some u/\RowV w u (ls.getD i []):=by
 obtain⟨ps,A,c,rfl,rfl,B,y,j,D⟩:=h;refine⟨A,c,by simp,by simpa using B,by simpa using y,ps.map (·.1),by simpa using j,λi hi=>?_⟩
 grind [Jfq,Jwd,getD_mem',z0]
open Go.RowKit Pl Go.Wk
variable {cap first:Array Value}{fid:FuncId}{ds:List Bool}{ps:List Pr}{base c i n:Nat}{A:Option Addr}{row:Option Nat}{w w':World}
theorem Qlm(hD:Dat w base (.slice A n c) ps)(hn:ps.length=n)(hC:CF w (Value.slice A n c).ownBlock fid first cap ps ds)(h12:n<=12){lim:Int}:
  Ret Tryz.prog 187 [.slice A n c,.int .i64 0,.int .i64 (n:Int),.int .i64 lim,.func (.func fid) first cap] w λv w'=>∃ ps',DP w w' base A n c ps ps'/\SOn z0 (fP ds) ps' 0 n:=by
 refine Jz Tryz.func187 Tryz.ntmps187 rfl kr rfl ?_;refine ρ ?_;refine Js (fun (_:Unit)=>[(0,.slice A n c),(1,.int .i64 0),(2,.int .i64 (n:Int)),(3,.int .i64 lim),(4,.func (.func fid) first cap)]) (λ_ w'=>w'=w) (λ_=>0) () sB rfl ?_;rintro _ w' rfl;refine ρ ?_;refine ct ?_ ?_
 .exact decide_eq_true om
 refine ρ ?_;refine cl (Qxf (a:=0) (ai:=0) (bi:=(n:Int)) hD hn rfl rfl (Nat.le_refl _) om om hC.pack) ?_;rintro v w2 ⟨i,B,y,u,j⟩;refine ρ ?_;exact Jzd ⟨i,(DP.start hD hn).ins B y j,u⟩
theorem Qdt(hD:Dat w base (.slice A n c) ps)(hn:ps.length=n)(hmx:n<=1100000)(hC:CF w (Value.slice A n c).ownBlock fid first cap ps ds):
  Ret Tryz.prog 153 [.slice A n c,.func (.func fid) first cap] w λv w'=>∃ ps',DP w w' base A n c ps ps'/\(n<=12->SOn z0 (fP ds) ps' 0 n):=by
 refine Jz Tryz.func153 Tryz.ntmps153 rfl kr rfl ?_;refine ρ ?_;refine kv 10 (u:=.int .u64 (n:Int)) (congrArg (Value.int .u64) (Zt om)) ?_;refine cl (Jmg n om w) ?_;rintro v w' ⟨rfl,rfl⟩;refine ρ ?_;have j:Jw n<=48:=Ys om;by_cases h12:n<=12
 .refine cl (Qlm hD hn hC h12) ?_;rintro v w2 ⟨q,H,i⟩;refine ρ ?_;exact Yx ⟨q,H,λ_=>i⟩
 refine cl (Qll n (a:=0) (b:=n) (ai:=0) (bi:=(n:Int)) (lim:=(Jw n:Int)) hD hn om hC rfl rfl om (Nat.le_refl _) om om) ?_;rintro v w2 ⟨q,H⟩;refine ρ ?_;exact Yx ⟨q,H,λh=>absurd h h12⟩
theorem Jpw{α:Type}{z:α}{f:α->α->Int}(hf:PreC f){q:List α}: SOn z f q 0 n↔∀ k,0<k->k<n->¬ f (q.getD k z) (q.getD (k-1) z)<0:=by
 constructor
 .intro h k h0 y u;have:=h (k-1) k om om y;have:=hf.anti (q.getD k z) (q.getD (k-1) z);omega
 intro h i j _ D B;induction j with
 | zero=>omega
 | succ j ih=>
  have G:=h (j+1) om B;have J:=hf.anti (q.getD (j+1) z) (q.getD j z);simp only[Nat.add_sub_cancel]at G;by_cases e:i=j
  .subst e;omega
  exact hf.trans _ _ _ (ih om om) om
theorem Jjj(hR:Rd w 1 A n (ps.map (·.1)))(hn:ps.length=n)(hi:i<n): w.cell? (adr A i)=some (ps.getD i z0).1:=hR.cell (Jfq (hn.symm ▸ hi))
theorem Yz(hn:ps.length=n)(hi:i<n): ps.getD i z0∈ps:=getD_mem' z0 ps (hn.symm ▸ hi)
theorem CF.none(h:CF w row fid first cap ps ds)(hx:Ext w w'){p q:Pr}(hp:p∈ps)(hq:q∈ps):
  Ret Tryz.prog fid (first.toList++[p.1,q.1]++cap.toList) w' λr w''=>r=.int .i64 (fP ds p q)/\Ext w' w'':=h w' (Xl hx _) p q hp hq
theorem Qsl(hR:Rd w 1 A n (ps.map (·.1)))(hn:ps.length=n)(hmx:n<=1100000)(hC:CF w row fid first cap ps ds):
  Ret Tryz.prog 151 [.slice A n c,.func (.func fid) first cap] w λv w'=>Ext w w'/\∃ t:Bool,v=.bool t/\(t=true↔SOn z0 (fP ds) ps 0 n):=by
 refine Jz Tryz.func151 Tryz.ntmps151 rfl kr rfl ?_;refine ρ ?_;refine Js (fun (j:Nat)=>[(0,.slice A n c),(1,.func (.func fid) first cap),(5,.int .i64 ((j:Int)-1))]) (λj w'=>Ext w w'/\j<=n/\∀ k,j<=k->0<k->k<n->¬ fP ds (ps.getD k z0) (ps.getD (k-1) z0)<0) (λj=>j) n sO ⟨Ext.refl w,Nat.le_refl _,λk h1 _ Z=>om⟩ ?_;rintro j w1 ⟨O,hj,U⟩;refine ρ ?_;refine ci (λh=>?_) (λh=>?_)
 .have Z:2<=j:=by have:=oT h;omega
  have D:j-1<n:=om
  have y:j-2<n:=om
  refine ρ ?_;refine dr [(0,0),(0,1),(0,2),(0,3),(0,4),(0,5),(0,6),(0,7),(0,8),(0,9),(1,10),(0,11)] kr ?_;have i:Ext w w1.drew:=O.drew;have u:=hR.ext i;refine ρd ?_;refine dix (j-1) u D ?_;refine ρd ?_;refine dld (Jjj u hn D) ?_;refine ρd ?_;refine dix (j-2) u y ?_;refine ρd ?_;refine dld (Jjj u hn y) ?_;refine ρd ?_;refine Vy (hC.none i (Yz hn D) (Yz hn y)) ?_;rintro r w2 ⟨rfl,B⟩;refine⟨B,?_⟩;refine ρd ?_;refine ρ ?_;refine ci (λh=>?_) (λh=>?_)
  .refine ρ ?_;refine Jq ⟨i.trans B,false,rfl,⟨λe=>(by cases e),λe=>?_⟩⟩;grind [Jpw,preP]
  refine ρ ?_;refine Jp (j-1) sO ⟨i.trans B,om,λk J G k3=>?_⟩ om;grind
 refine ρ ?_;have h1:j<=1:=by grind
 exact Jq ⟨O,true,rfl,⟨λ_=>(Jpw (preP ds)).2 λk J G=>U k om J G,λ_=>rfl⟩⟩
theorem Qlz{P:Program}{t e k bytes:Nat}{z:Value}{xs:List Value}(hE:ElT P t e 1 bytes z)(hz1:z.cells = #[z])(hz2:z.oneCell'=true)(h:w.ownsRow base e 1 (.slice A n c) n xs)(hk:k<=n)(ty:TypeId):
  ∃ w',(Builtin.clear_ #[t] ty #[.slice (if c=k then A else A.map (·.add (k*1))) (n-k) (c-k)]).run P w=.ok (.tuple #[]) w'/\w'.ownsRow base e 1 (.slice A k c) k (xs.take k)/\w.grownBy w' (Value.slice A n c).ownBlock:=by
 obtain⟨i,hi,U,Z,a2⟩:=hE.info;obtain⟨hl,O⟩:=h;have a1:xs.length=n:=om
 rcases Nat.eq_or_lt_of_le hk with e0|hlt
 .subst e0;refine⟨w,?_,?_,Xl (Ext.refl w) _⟩
  .rw[Nat.sub_self];generalize (if c=k then A else A.map (·.add (k*1)))=B
   cases B<;>simp[Builtin.clear_,run_underlying hE.sl]
  rw[List.take_of_length_le om];exact⟨hl,O⟩
 rcases O with⟨D,h0⟩|⟨g,cap,cur,D,hb,hg,hle,hmx,hcs,hcur⟩
 .omega
 injection D with e1 e2 e3
 subst e1;subst e3;have J:¬ c=k:=om
 rw[if_neg J];have e4:(some (⟨g,0,none⟩:Addr)).map (·.add (k*1))=some ⟨g,k,none⟩:=by simp[Zm]
 rw[e4];have j:=run_storeCells_at (P:=P) g k e (List.replicate (n-k) z) 0 cur w hg (by simp;omega) (λv D=>by grind);refine⟨w.setRow g (cur.toList.take (k+0)++List.replicate (n-k) z++cur.toList.drop (k+0+(List.replicate (n-k) z).length)).toArray,?_,?_,Jjz w g _⟩
 .have G:∃ m,n-k=m+1:=⟨n-k-1,om⟩;obtain⟨m,hm⟩:=G;have u:(Builtin.zeroCells z.cells (n-k)).toList=List.replicate (n-k) z:=by
   rw[hz1];simp only[Builtin.zeroCells];apply List.ext_getElem
   repeat grind
  rw[hm]at j u ⊢;have y:(zeroValue e).run P w=.ok z w:=by simp[zeroValue,typeInfo,hi,U]
  simp only[Nat.add_zero,List.length_replicate,List.append_assoc]at j ⊢;simp[Builtin.clear_,run_underlying hE.sl,y,u,j]
 simp only[Nat.add_zero,List.length_replicate];refine⟨by grind,.inr ⟨g,c,_,rfl,hb,setRow_heap w g cur _ e _ hg,om,hmx,?_,?_⟩⟩;repeat grind
end Go.Proofs.YtebiphhfkdbpfaaGreatDoor
namespace Go.Wk
section
variable {P:Program} {n:Nat} {al:AL} {w:World} {Q:Exit->Act->World->Prop} {ops:Array Oper} {rest:List Oper}
variable {ty:Nat} {pos:String} {aft:Array Edge}
theorem clr{x:Operand}{t:Nat}{v:Value}{w':World}(h:∀ ty,(Builtin.clear_ #[t] ty #[v]).run P w=.ok (.tuple #[]) w')(k:WL P n ops Q rest al w')(hx:ev al x=some v:=by rfl):
  WL P n ops Q (⟨none,.call { callee:=.builtin .clear,args:=#[x],argTypes:=#[t] },ty,pos,aft,none⟩::rest) al w:=λa i=>
 wpList_plain rfl λK j=>by
  unfold Oper.wp;have e:(execOp a.eval ⟨none,.call { callee:=.builtin .clear,args:=#[x],argTypes:=#[t] },ty,pos,aft,none⟩).run P w=.ok (.value (.tuple #[])) w':=by
   simp[execOp,resolve,invoke,builtin,i.ev hx,h ty]
  rw[e,Oper.upon_value];exact j _ _ (k _ i)
end
end Go.Wk
namespace Go.Proofs.YtebiphhfkdbpfaaGreatDoor
open Go.RowKit Pl Go.Wk
attribute [local irreducible] WC WL QX WD WDB WP
variable {ps q:List Pr}{base c k n:Nat}{A:Option Addr}{w:World}
def EqF(w:World)(row:Option Nat)(fid:FuncId)(first cap:Array Value)(M:List Pr): Prop :=
 ∀ w',w.grownBy w' row->∀ p q,p∈M->q∈M->Ret Tryz.prog fid (first.toList++[p.1,q.1]++cap.toList) w' λr w''=>r=.bool (decide (p.2=q.2))/\Ext w' w''
theorem Qkr{l:List Row}(h:l.length<2): ddF l=l:=by
 match l with
 | []=>rfl
 | [a]=>rfl
 | _::_::_=>exact absurd h (by simp)
theorem Qr{α:Type}(z:α){l:List α}(h:k<l.length): l.take (k+1)=l.take k++[l.getD k z]:=by grind [List.take_add_one,List.getElem?_eq_getElem,Ql]
theorem Dat.take(hq:q.length=n)(h1:∀ p∈q,p.1.oneCell'=true)(hk:k<=n)(h:w.ownsRow base 85 1 (.slice A k c) k ((q.map (·.1)).take k)): Dat w base (.slice A k c) (q.take k):=by
 refine⟨?_,λp i=>h1 p (List.mem_of_mem_take i)⟩;grind [List.length_take,Nat.min_eq_left,List.map_take]
theorem Xxr{fid:FuncId}{first cap:Array Value}(hD:Dat w base (.slice A n c) ps)(hn:ps.length=n)(hmx:n<=1100000)(hnc:n<=c)(hC:EqF w (Value.slice A n c).ownBlock fid first cap ps):
  Ret Tryz.prog 154 [.slice A n c,.func (.func fid) first cap] w λv w'=>∃ ps':List Pr,v=.slice A ps'.length c/\Dat w' base (.slice A ps'.length c) ps'/\ps'.map (·.2)=ddF (ps.map (·.2))/\(∀ p∈ps',p∈ps)/\w.grownBy w' (Value.slice A n c).ownBlock:=by
 refine Jz Tryz.func154 Tryz.ntmps154 rfl kr rfl ?_;obtain⟨ls,aa⟩:∃ ls:List Row,ls=ps.map (·.2):=⟨_,rfl⟩
 have ap:ls.length=n:=by rw[aa];simpa using hn
 have u:∀ i,ls.getD i []=(ps.getD i z0).2:=λi=>by rw[aa];exact Jwd
 refine ρ ?_;refine ci (λh=>?_) (λh=>?_)
 .refine ρ ?_;refine Jq ⟨ps,by rw[hn],by rw[hn];exact hD,?_,λp Z=>Z,Xl (Ext.refl w) _⟩;grind [Qkr]
 have h2:2<=n:=by grind
 clear h;refine ρ ?_;refine Js (fun (j:Nat)=>[(0,.slice A n c),(1,.func (.func fid) first cap),(5,.int .i64 (j:Int))]) (λj w'=>Ext w w'/\1<=j/\j<=n/\ddF (ls.take j)=ls.take j) (λj=>n-j) 1 sB ⟨Ext.refl w,om,om,Qkr (by rw[List.length_take];omega)⟩ ?_;rintro j w1 ⟨hx,ar,hj,hI⟩;refine ρ ?_;refine ci (λh=>?_) (λh=>?_);rotate_left
 .have e:j=n:=by have:=oF h;omega
  refine ρ ?_;refine Jq ⟨ps,by rw[hn],by rw[hn];exact hD.ext hx,?_,λp Z=>Z,Xl hx _⟩;grind
 have lj:j<n:=by grind
 have a3:j-1<n:=om
 clear h;refine ρ ?_;refine dr [(0,0),(0,1),(0,2),(0,3),(0,4),(0,5),(0,6),(0,7),(0,8),(0,9),(1,10)] kr ?_;have a5:Ext w w1.drew:=hx.drew;have J:=hD.ext a5;refine ρd ?_;refine dix j (J.rd hn) lj ?_;refine ρd ?_;refine dld (J.cell hn lj) ?_;refine ρd ?_;refine dix (j-1) (J.rd hn) a3 ?_;refine ρd ?_;refine dld (J.cell hn a3) ?_;refine ρd ?_;refine Vy (hC _ (Xl a5 _) (ps.getD j z0) (ps.getD (j-1) z0) (Yz hn lj) (Yz hn a3)) ?_;rintro r w2 ⟨rfl,a8⟩;refine⟨a8,?_⟩;have a4:=a5.trans a8;refine ρd ?_;refine ρ ?_;have y:=Qkp (l:=ls) (k:=j) om;rw[u,u]at y;refine ci (λh=>?_) (λh=>?_);rotate_left
 .have a9:=oF h;refine ρ ?_;refine Jp (j+1) sO ⟨a4,om,om,?_⟩ om;grind [Qr]
 have ac:=oT h;clear h;rw[if_pos ⟨om,ac.symm⟩,hI]at y;have an:=hD.ext a4;refine ρ ?_;refine sll j ?_;refine ρ ?_;refine Xf (fun (k m:Nat) (q:List Pr)=>[(0,.slice A n c),(1,.func (.func fid) first cap),(5,.int .i64 (k:Int)),(6,.slice (if c=j then A else A.map (·.add (j*1))) (n-j) (c-j)),(7,.int .i64 ((m:Int)-(j:Int)))])
  (λk m q w'=>Dat w' base (.slice A n c) q/\q.length=n/\w.grownBy w' (Value.slice A n c).ownBlock/\j<m/\m<=n/\k<m/\(∀ i,k<=i->q.getD i z0=ps.getD i z0)/\(q.take k).map (·.2)=ddF (ls.take m)/\∀ p∈q,p∈ps) (λ_ m _=>n-m) j (j+1) ps sO
  ⟨an,hn,Xl a4 _,om,om,om,λ_ _=>rfl,by grind [List.map_take],λp Z=>Z⟩ ?_
 rintro k m q w3 ⟨a6,U,ab,aq,hm,hk,ak,aj,O⟩;refine ρ ?_;refine ci (λh=>?_) (λh=>?_)
 .have ai:m<n:=by have:=oT h;omega
  have lm:m-j<n-j:=om
  have af:m-j-1<n-j:=om
  clear h;refine ρ ?_;refine dr [(0,0),(0,1),(0,2),(0,3),(0,4),(0,5),(0,6),(0,7),(0,8),(0,9),(1,10),(0,11)] kr ?_;have a7:Ext w3 w3.drew:=(Ext.refl w3).drew;have ae:=a6.ext a7;have hg6:=Xy ab (Xl a7 _);have B:=(ae.rd U).drop (k:=j) (c:=c) om hnc;have c1:((q.map (·.1)).drop (j*1))[m-j]?=some (ps.getD m z0).1:=by grind
  have c2:((q.map (·.1)).drop (j*1))[m-j-1]?=some (ps.getD (m-1) z0).1:=by grind
  refine ρd ?_;refine dix (m-j) B lm ?_;refine ρd ?_;refine dld (B.cell c1) ?_;refine ρd ?_;refine dix (m-j-1) B af ?_;refine ρd ?_;refine dld (B.cell c2) ?_;refine ρd ?_;refine Vy (hC _ hg6 (ps.getD m z0) (ps.getD (m-1) z0) (Yz hn ai) (Yz hn om)) ?_;rintro r w7 ⟨rfl,D⟩;refine⟨D,?_⟩;have G:=ae.ext D;have hg7:=Xy hg6 (Xl D _);have ad:=B.ext D;refine ρd ?_;refine ρ ?_;have y:=Qkp (l:=ls) (k:=m) om;rw[u,u]at y;refine ci (λh=>?_) (λh=>?_)
  .have a9:(ps.getD m z0).2≠(ps.getD (m-1) z0).2:=by simpa using h
   have lk:k<n:=om
   have ao:(q.take k).length=k:=by rw[List.length_take];omega
   refine ρ ?_;refine ix (m-j) ad lm ?_;refine ρ ?_;refine ld (ad.cell c1) ?_;refine ρ ?_;refine ix k (G.rd U) lk ?_;refine ρ ?_;obtain⟨s1,s2,s3⟩:=G.store U lk (p:=ps.getD m z0) (hD.one om);refine sto (G.cell U lk) s1 ?_ (hv:=hD.one om);refine ρ ?_;refine Qn (k+1) (m+1) (q.set k (ps.getD m z0)) sO ⟨s2,by simpa using U,Xy hg7 s3,om,om,om,λi hi=>?_,?_,λp Z=>?_⟩ om
   .grind
   .rw[y,if_neg (λe=>a9 e.2.symm),<-aj,Qr z0 (by simp;omega),Jhl z0 _ _ _ _ om,if_pos rfl,List.take_set_of_le (Nat.le_refl _),List.map_append];rfl
   repeat grind
  have ac:(ps.getD m z0).2=(ps.getD (m-1) z0).2:=by simpa using h
  refine ρ ?_;refine Qn k (m+1) q sO ⟨G,U,hg7,om,om,om,ak,?_,O⟩ om;grind
 have e:m=n:=by have:=oF h;omega
 subst e;have a2:=a6.1;rw[U]at a2;obtain⟨w8,ag,ah,am⟩:=Qlz (P:=Tryz.prog) (k:=k) ER rfl rfl a2 om 0;refine ρ ?_;refine sll k ?_;refine ρ ?_;refine clr (w':=w8) (λty=>ag) ?_;refine ρ ?_;refine slh k ?_;refine ρ ?_;have a1:(q.take k).length=k:=by rw[List.length_take];omega
 refine Jq ⟨q.take k,by rw[a1],by rw[a1];exact Dat.take U a6.2 om ah,?_,λp Z=>O p (List.mem_of_mem_take Z),Xy ab am⟩;grind
end Go.Proofs.YtebiphhfkdbpfaaGreatDoor
