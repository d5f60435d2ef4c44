/- Part 5. -/
import Derived.Test.YtebcagekopgdhaaGreatDoorB03
import Derived.Test.YtebcagekopgdhaaGreatDoorRows
import Derived.IntWalk
set_option linter.unusedVariables false
set_option maxRecDepth 100000
set_option maxHeartbeats 40000000
namespace Go.Proofs.YtebcagekopgdhaaGreatDoor
namespace Pl
def val: List UInt32->Nat
 | []=>0
 | c::l=>c.toNat+4294967296*val l
def Jq(n:Nat): List UInt32:=if h:n=0 then [] else UInt32.ofNat n::Jq (n / 4294967296)
termination_by n
decreasing_by exact Nat.div_lt_self om (by decide)
theorem limbs_0: Jq 0=[]:=by rw [Jq];rfl
theorem Jvb{n:Nat}(h:n≠0): Jq n=UInt32.ofNat n::Jq (n / 4294967296):=by rw [Jq,dif_neg h]
theorem Qfm{c:UInt32}{m:Nat}(h:c.toNat+4294967296*m≠0): Jq (c.toNat+4294967296*m)=c::Jq m:=by
 have o:=c.toNat_lt;rw [Jvb h];congr 1
 .apply UInt32.toNat_inj.1
  rw [UInt32.toNat_ofNat'];have:c.toNat<4294967296:=o;omega
 .congr 1
  have:c.toNat<4294967296:=o;omega
def Xk: List UInt32->List UInt32
 | []=>[]
 | c::l=>if Xk l=[]/\c=0 then [] else c::Xk l
theorem val_0{l:List UInt32}(h:Xk l=[]): val l=0:=by
 induction l with
 | nil=>rfl
 | cons c l ih=>
  simp only [Xk]at h;split at h
  .rename_i h2;rw [val,ih h2.1,h2.2];rfl
  .cases h
theorem Gu: ∀ l:List UInt32,Xk l=Jq (val l)
 | []=>by rw [val,limbs_0];rfl
 | c::l=>by
  have ih:=Gu l;simp only [Xk,val];split
  .rename_i h;rw [val_0 h.1,h.2];exact limbs_0.symm
  .rename_i h;rw [Qfm,ih];intro h0;apply h
   have hv:val l=0:=om
   refine ⟨?_,?_⟩
   .rw [ih,hv,limbs_0]
   .apply UInt32.toNat_inj.1
    show c.toNat=0;omega
theorem Zb(n:Nat): val (Jq n)=n:=by
 induction n using Nat.strongRecOn with
 | ind n ih=>
  by_cases h:n=0
  .subst h;rw [limbs_0];rfl
  .rw [Jvb h,val,ih (n / 4294967296) (Nat.div_lt_self om (by decide)),UInt32.toNat_ofNat'];omega
theorem Qks(n:Nat): Xk (Jq n)=Jq n:=by rw [Gu,Zb]
theorem Jlc(l:List UInt32): Xk (l++[0])=Xk l:=by
 induction l with
 | nil=>rfl
 | cons c l ih=>simp only [List.cons_append,Xk,ih]
theorem Qkr{c:UInt32}(l:List UInt32)(h:c≠0): Xk (l++[c])=l++[c]:=by
 induction l with
 | nil=>simp [Xk,h]
 | cons d l ih=>simp only [List.cons_append,Xk,ih];simp
theorem Ks(a b:List UInt32): val (a++b)=val a+4294967296^a.length*val b:=by
 induction a with
 | nil=>simp [val]
 | cons c a ih=>rw [List.cons_append,val,val,ih,List.length_cons,Nat.pow_succ,Nat.mul_add,<-Nat.mul_assoc,Nat.mul_comm (4294967296^a.length) 4294967296];omega
theorem Jyt(a:List UInt32): val a<4294967296^a.length:=by
 induction a with
 | nil=>simp [val]
 | cons c a ih=>
  have o:c.toNat<4294967296:=c.toNat_lt;rw [val,List.length_cons,Nat.pow_succ];have:4294967296*(val a+1)<=4294967296*4294967296^a.length:=Nat.mul_le_mul_left _ ih;rw [Nat.mul_comm (4294967296^a.length)];omega
theorem Qkm{c:UInt32}(l:List UInt32)(h:c≠0): 4294967296^l.length<=val (l++[c]):=by
 have o:0<c.toNat:=by
  rcases Nat.eq_zero_or_pos c.toNat with h0|h0
  .exact absurd (UInt32.toNat_inj.1 h0) h
  .exact h0
 rw [Ks,val];have:4294967296^l.length*1<=4294967296^l.length*(c.toNat+4294967296*val []):=Nat.mul_le_mul_left _ om;omega
theorem Qfl{n:Nat}(h:n≠0): ∃ l c,Jq n=l++[c]/\c≠0:=by
 rcases List.eq_nil_or_concat (Jq n) with h0|⟨l,c,h0⟩
 .have:=Zb n;rw [h0]at this;exact absurd this.symm h
 .refine ⟨l,c,by rw [h0];simp,λC=>?_⟩;subst C;have o:=Qks n;rw [h0,List.concat_eq_append,Jlc]at o;have u:=congrArg List.length o;have G:(Xk l).length<=l.length:=by
   clear o u h0;induction l with
   | nil=>simp [Xk]
   | cons c l ih=>simp only [Xk];split<;>simp;exact ih
  simp at u;omega
theorem Jrp{n:Nat}(h:n≠0): 4294967296^((Jq n).length-1)<=n:=by
 obtain ⟨l,c,o,u⟩:=Qfl h;have:=Qkm l u;rw [<-o,Zb]at this;rw [o];simpa using this
theorem Qfk(n:Nat): n<4294967296^(Jq n).length:=by have:=Jyt (Jq n);rwa [Zb]at this
theorem Jcw{n m:Nat}(h:(Jq n).length<(Jq m).length): n<m:=by
 have o:m≠0:=λe=>by subst e;rw [limbs_0]at h;simp at h
 have G:=Jrp o;have C:=Qfk n;have u:4294967296^(Jq n).length<=4294967296^((Jq m).length-1):=Nat.pow_le_pow_right (by decide) om;omega
def Yl(n m:Nat): Int:=if n<m then -1 else if m<n then 1 else 0
theorem Jhv{a b:List UInt32}{i:Nat}(ha:i<a.length)(hab:a.length=b.length)(ht:a.drop (i+1)=b.drop (i+1))(hl:(a.getD i 0).toNat<(b.getD i 0).toNat): val a<val b:=by
 have o:i<b.length:=om
 have O:a=a.take i++(a.getD i 0::a.drop (i+1)):=by
  have e:a.getD i 0=a[i]:=by simp [List.getD,List.getElem?_eq_getElem ha]
  rw [e,<-List.drop_eq_getElem_cons ha,List.take_append_drop]
 have J:b=b.take i++(b.getD i 0::b.drop (i+1)):=by
  have e:b.getD i 0=b[i]:=by simp [List.getD,List.getElem?_eq_getElem o]
  rw [e,<-List.drop_eq_getElem_cons o,List.take_append_drop]
 rw [O,J,Ks,Ks,val,val,ht];have G:(a.take i).length=i:=by rw [List.length_take];omega
 have C:(b.take i).length=i:=by rw [List.length_take];omega
 have u:=Jyt (a.take i);rw [G]at u ⊢;rw [C];have:4294967296^i*((a.getD i 0).toNat+1+4294967296*val (b.drop (i+1)))<=4294967296^i*((b.getD i 0).toNat+4294967296*val (b.drop (i+1))):=Nat.mul_le_mul_left _ om;rw [Nat.add_assoc,Nat.add_comm 1,<-Nat.add_assoc,Nat.mul_add,Nat.mul_one]at this;omega
end Pl
open Go.RowKit Go.Wk
def tt: TT:=[(3,{ desc:=.int .i64 }),
 (2,{ desc:=.int .i64 }),
 (5,{ desc:=.int .u8 }),
 (23,{ desc:=.int .u16 }),
 (110,{ desc:=.int .u32 }),
 (22,{ desc:=.int .u64 }),
 (111,{ desc:=.int .u64 }),
 (4,{ desc:=.bool }),
 (9,{ desc:=.string }),
 (38,{ desc:=.int .i64 }),
 (256,{ desc:=.int .i64 }),
 (270,{ desc:=.int .u64 }),
 (29,{ desc:=.slice 110,esz:=1 }),
 (24,{ desc:=.slice 4,esz:=1 }),
 (44,{ desc:=.slice 3,esz:=1 }),
 (248,{ desc:=.slice 5,esz:=1 }),
 (28,{ desc:=.slice 110,esz:=1 }),
 (37,{ desc:=.slice 47,esz:=3 }),
 (36,{ desc:=.slice 47,esz:=3 }),
 (54,{ desc:=.slice 37,esz:=1 }),
 (50,{ desc:=.slice 44,esz:=1 }),
 (51,{ desc:=.slice 54,esz:=1 }),
 (25,{ desc:=.slice 187,esz:=3 }),
 (90,{ desc:=.slice 99,esz:=3 }),
 (134,{ desc:=.slice 140,esz:=3 }),
 (26,{ desc:=.slice 134,esz:=1 }),
 (27,{ desc:=.slice 219,esz:=1 }),
 (154,{ desc:=.slice 205,esz:=1 }),
 (155,{ desc:=.slice 213,esz:=1 }),
 (206,{ desc:=.slice 247,esz:=2 }),
 (282,{ desc:=.slice 288,esz:=1 }),
 (279,{ desc:=.slice 282,esz:=1 }),
 (283,{ desc:=.slice 297,esz:=2 }),
 (312,{ desc:=.slice 29,esz:=1 }),
 (47,{ desc:=.invalid,size:=3,offs:=[0,1,2] }),
 (95,{ desc:=.invalid,size:=2,offs:=[0,1] }),
 (99,{ desc:=.invalid,size:=3,offs:=[0,1] }),
 (92,{ desc:=.invalid,size:=5,offs:=[0,1,2,3,4] }),
 (31,{ desc:=.invalid,size:=5,offs:=[0,1,2,3,4] }),
 (53,{ desc:=.invalid,size:=6,offs:=[0,1,2,3,4,5] }),
 (119,{ desc:=.invalid,size:=5,offs:=[0,1,2,3,4] }),
 (187,{ desc:=.invalid,size:=3,offs:=[0,1,2] }),
 (149,{ desc:=.invalid,size:=2,offs:=[0,1] }),
 (138,{ desc:=.invalid,size:=2,offs:=[0,1] }),
 (231,{ desc:=.invalid,size:=4,offs:=[0,3] }),
 (233,{ desc:=.invalid,size:=9,offs:=[0,4,5,6,7,8] }),
 (140,{ desc:=.invalid,size:=3,offs:=[0,1] }),
 (247,{ desc:=.invalid,size:=2,offs:=[0,1] }),
 (157,{ desc:=.invalid,size:=10,offs:=[0,5,6,7,8,9] }),
 (175,{ desc:=.invalid,size:=9,offs:=[0,5,6,7,8] }),
 (61,{ desc:=.invalid,size:=7,offs:=[0,5,6] }),
 (281,{ desc:=.invalid,size:=4,offs:=[0,1,2,3] }),
 (297,{ desc:=.invalid,size:=2,offs:=[0,1] }),
 (285,{ desc:=.invalid,size:=1,offs:=[0] }),
 (300,{ desc:=.invalid,size:=2,offs:=[0,1] }),
 (303,{ desc:=.invalid,size:=69,offs:=[0,1,2,4,68] }),
 (168,{ desc:=.pointer 175 }),
 (136,{ desc:=.pointer 233 }),
 (204,{ desc:=.pointer 157 }),
 (215,{ desc:=.pointer 140 }),
 (278,{ desc:=.pointer 281 }),
 (288,{ desc:=.pointer 303 }),
 (274,{ desc:=.pointer 3 }),
 (292,{ desc:=.pointer 270 }),
 (198,{ desc:=.array 32 3,size:=32,esz:=1 }),
 (199,{ desc:=.array 32 110,size:=32,esz:=1 }),
 (301,{ desc:=.array 32 300,size:=64,esz:=2 }),
 (308,{ desc:=.array 24 5,size:=24,esz:=1 }),
 (193,{ desc:=.func #[37] #[4] false }),
 (219,{ desc:=.map 9 3 }),
 (205,{ desc:=.map 9 4 }),
 (213,{ desc:=.map 9 29 }),
 (173,{ desc:=.map 3 138 }),
 (234,{ desc:=.func #[136] #[3] false })]
theorem Jxp: TOk Tryz.prog tt:=⟨⟨kr,kr⟩,
 ⟨kr,kr⟩,
 ⟨kr,kr⟩,
 ⟨kr,kr⟩,
 ⟨kr,kr⟩,
 ⟨kr,kr⟩,
 ⟨kr,kr⟩,
 ⟨kr,kr⟩,
 ⟨kr,kr⟩,
 ⟨kr,kr⟩,
 ⟨kr,kr⟩,
 ⟨kr,kr⟩,
 ⟨kr,kr,kr⟩,
 ⟨kr,kr,kr⟩,
 ⟨kr,kr,kr⟩,
 ⟨kr,kr,kr⟩,
 ⟨kr,kr,kr⟩,
 ⟨kr,kr,kr⟩,
 ⟨kr,kr,kr⟩,
 ⟨kr,kr,kr⟩,
 ⟨kr,kr,kr⟩,
 ⟨kr,kr,kr⟩,
 ⟨kr,kr,kr⟩,
 ⟨kr,kr,kr⟩,
 ⟨kr,kr,kr⟩,
 ⟨kr,kr,kr⟩,
 ⟨kr,kr,kr⟩,
 ⟨kr,kr,kr⟩,
 ⟨kr,kr,kr⟩,
 ⟨kr,kr,kr⟩,
 ⟨kr,kr,kr⟩,
 ⟨kr,kr,kr⟩,
 ⟨kr,kr,kr⟩,
 ⟨kr,kr,kr⟩,
 ⟨_,Tryz.underlying47,kr,kr⟩,
 ⟨_,Tryz.underlying95,kr,kr⟩,
 ⟨_,Tryz.underlying99,kr,kr⟩,
 ⟨_,Tryz.underlying92,kr,kr⟩,
 ⟨_,Tryz.underlying31,kr,kr⟩,
 ⟨_,Tryz.underlying53,kr,kr⟩,
 ⟨_,Tryz.underlying119,kr,kr⟩,
 ⟨_,Tryz.underlying187,kr,kr⟩,
 ⟨_,Tryz.underlying149,kr,kr⟩,
 ⟨_,Tryz.underlying138,kr,kr⟩,
 ⟨_,Tryz.underlying231,kr,kr⟩,
 ⟨_,Tryz.underlying233,kr,kr⟩,
 ⟨_,Tryz.underlying140,kr,kr⟩,
 ⟨_,Tryz.underlying247,kr,kr⟩,
 ⟨_,Tryz.underlying157,kr,kr⟩,
 ⟨_,Tryz.underlying175,kr,kr⟩,
 ⟨_,Tryz.underlying61,kr,kr⟩,
 ⟨_,Tryz.underlying281,kr,kr⟩,
 ⟨_,Tryz.underlying297,kr,kr⟩,
 ⟨_,Tryz.underlying285,kr,kr⟩,
 ⟨_,Tryz.underlying300,kr,kr⟩,
 ⟨_,Tryz.underlying303,kr,kr⟩,
 ⟨kr,kr⟩,
 ⟨kr,kr⟩,
 ⟨kr,kr⟩,
 ⟨kr,kr⟩,
 ⟨kr,kr⟩,
 ⟨kr,kr⟩,
 ⟨kr,kr⟩,
 ⟨kr,kr⟩,
 ⟨kr,kr,kr⟩,
 ⟨kr,kr,kr⟩,
 ⟨kr,kr,kr⟩,
 ⟨kr,kr,kr⟩,
 ⟨kr,kr⟩,
 ⟨kr,kr⟩,
 ⟨kr,kr⟩,
 ⟨kr,kr⟩,
 ⟨kr,kr⟩,
 ⟨kr,kr⟩,trivial⟩
theorem mixed: Tryz.prog.follows .mixedOrders=true:=kr
instance:Tab Tryz.prog tt:=⟨Jxp,mixed⟩
theorem EN: ElT Tryz.prog 29 110 1 4 (.int .u32 0):=⟨Tryz.underlying29,info_parts kr,rfl,by decide⟩
theorem EV: ElT Tryz.prog 37 47 3 32 (.agg #[.int .i64 0,.int .i64 0,.string ⟨#[]⟩]):=⟨Tryz.underlying37,info_parts kr,rfl,by decide⟩
theorem ER: ElT Tryz.prog 54 37 1 24 (.slice none 0 0):=⟨Tryz.underlying54,info_parts kr,rfl,by decide⟩
theorem bsN(x y:Int)(w:World): (Instr.buildSlice 29 2 #[(0,.int .u32 x),(1,.int .u32 y)]).run Tryz.prog w=.ok (.slice (some ⟨w.heap.size,0,none⟩) 2 2) (w.alloc (.cells #[.int .u32 x,.int .u32 y] 110)):=kr
open Go.RowKit Pl Go.Wk
attribute [local irreducible] WC WL QX WD WDB
def Nc(l:List UInt32): List Value:=l.map λc=>.int .u32 (c.toNat:Int)
theorem Qrn(l:List UInt32): (Nc l).length=l.length:=by simp [Nc]
theorem Zy{l:List UInt32}{k:Nat}(h:k<l.length): (Nc l)[k]?=some (.int .u32 ((l.getD k 0).toNat:Int)):=by simp [Nc,List.getD,List.getElem?_eq_getElem h]
theorem Qrm(l:List UInt32)(k:Nat): (Nc l).take k=Nc (l.take k):=by simp [Nc]
theorem Jgh(l:List UInt32): ∀ u∈Nc l,u.oneCell'=true:=by
 intro u o;simp [Nc]at o;obtain ⟨c,_,rfl⟩:=o;rfl
def NatV(w:World)(v:Value)(n:Nat): Prop:=∃ A c,v=.slice A (Jq n).length c/\(Jq n).length<=c/\(Jq n).length<=4611686018427387904/\Rd w 1 A (Jq n).length (Nc (Jq n))
theorem NatV.ext{w w':World}{v:Value}{n:Nat}(h:NatV w v n)(hx:Ext w w'): NatV w' v n:=by
 obtain ⟨A,c,G,C,u,o⟩:=h;exact ⟨A,c,G,C,u,o.ext hx⟩
theorem NatV.nil(w:World): NatV w (.slice none 0 0) 0:=⟨none,0,by rw [limbs_0];rfl,by rw [limbs_0];simp,by rw [limbs_0];simp,by rw [limbs_0];exact Rd.nil⟩
theorem Jyw: ∀ l:List UInt32,Xk l=l.take (Xk l).length
 | []=>rfl
 | c::l=>by
  simp only [Xk];split
  .rfl
  .rw [List.length_cons,List.take_succ_cons,<-Jyw l]
theorem Jld(l:List UInt32): (Xk l).length<=l.length:=by
 have:=congrArg List.length (Jyw l);rw [List.length_take]at this;omega
theorem Jjl{w:World}{A:Option Addr}{l:List UInt32}(hr:Rd w 1 A l.length (Nc l))(hm:l.length<=4611686018427387904): NatV w (.slice A (Jq (val l)).length (Jq (val l)).length) (val l):=by
 have h:=hr.take (m:=(Xk l).length) (Jld l);rw [Nat.mul_one,Qrm,<-Jyw]at h;have:=Jld l;rw [<-Gu];exact ⟨A,(Xk l).length,by rw [<-Gu],by rw [<-Gu];exact Nat.le_refl _,by rw [<-Gu];omega,by rw [<-Gu];exact h⟩
theorem Kt{A:Option Addr}{l:List UInt32}{c:Nat}{w:World}(hr:Rd w 1 A l.length (Nc l))(hc:l.length<=c)(hm:l.length<=4611686018427387904):
  Ret Tryz.prog 52 [.slice A l.length c] w λv w'=>v=.slice A (Jq (val l)).length (Jq (val l)).length/\w'=w:=by
 refine Jz Tryz.func52 Tryz.ntmps52 rfl kr rfl ?_;refine ρ ?_;have J:∀ k,k<=l.length->Xk (l.take k)=Xk l->Xk (l.take k)=l.take k->k=(Jq (val l)).length:=λk G h1 h2=>by
  rw [<-Gu,<-h1,h2,List.length_take];omega
 refine Qd (λk=>[(0,.slice A l.length c),(3,.int .i64 ((k:Nat):Int))]) (λk w'=>w'=w/\k<=l.length/\Xk (l.take k)=Xk l) (λk=>k) l.length sB ⟨rfl,Nat.le_refl _,by rw [List.take_length]⟩ ?_;rintro k w' ⟨rfl,G,hn⟩;have done:∀ k,k=(Jq (val l)).length->k<=l.length->(Value.slice A k k)=.slice A (Jq (val l)).length (Jq (val l)).length:=λk h _=>by rw [h]
 refine ρ ?_;refine ki 8 (λh=>?_) (λh=>?_)
 .have Z:0<k:=by have:=oT h;omega
  have o:k-1<l.length:=om
  have C:l.take k=l.take (k-1)++[l.getD (k-1) 0]:=by
   have e:=List.take_succ_eq_append_getElem o;rw [show k-1+1=k by omega]at e;rw [e];simp [List.getD,List.getElem?_eq_getElem o]
  refine ρ ?_;refine ix (k-1) hr o ?_;refine ρ ?_;refine ld (hr.cell (Zy o)) ?_;refine ρ ?_;refine ci (λh0=>?_) (λh0=>?_)
  .have O:l.getD (k-1) 0=0:=by
    have:=Xf h0;apply UInt32.toNat_inj.1
    show (l.getD (k-1) 0).toNat=0;omega
   refine ρ ?_;refine Qw (k-1) sO ⟨rfl,om,?_⟩ om;rw [<-hn,C,O,Jlc]
  .have O:l.getD (k-1) 0≠0:=by
    have:=Xg h0;intro e;rw [e]at this;exact this rfl
   have u:=J k G hn (by rw [C];exact Qkr _ O);refine ρ ?_;refine Jkn Jxp 0 k k A k k rfl rfl rfl rfl rfl ⟨_,_,rfl,rfl⟩ ⟨_,_,rfl,rfl⟩ (.inr (by simp)) (Nat.zero_le _) (Nat.le_refl _) om (cut0 A _ _) rfl rfl rfl ?_;refine ρ ?_;exact Jj ⟨done k u G,rfl⟩
 .have U:k=0:=by have:=oF h;omega
  subst U;have u:=J 0 G hn rfl;refine ρ ?_;refine Jkn Jxp 0 0 0 A 0 0 rfl rfl rfl rfl rfl ⟨_,_,rfl,rfl⟩ ⟨_,_,rfl,rfl⟩ (.inr (by simp)) (Nat.zero_le _) (Nat.le_refl _) om (cut0 A _ _) rfl rfl rfl ?_;refine ρ ?_;exact Jj ⟨done 0 u G,rfl⟩
theorem Ya{w:World}{v:Value}{n:Nat}(h:NatV w v n): Ret Tryz.prog 52 [v] w λv' w'=>(∃ A,v'=.slice A (Jq n).length (Jq n).length/\Rd w 1 A (Jq n).length (Nc (Jq n)))/\w'=w:=by
 obtain ⟨A,c,rfl,C,u,o⟩:=h;refine (Kt o C u).mono ?_;rintro v w' ⟨rfl,rfl⟩;rw [Zb];exact ⟨⟨A,rfl,o⟩,rfl⟩
theorem Yt(n:Nat): IntKind.u32.wrap (n:Int)=((UInt32.ofNat n).toNat:Int):=by
 rw [UInt32.toNat_ofNat',IntKind.wrap_u32];omega
theorem Jlb(n:Nat): IntKind.u32.wrap ((n:Int).fdiv (2^min (32:Int).toNat IntKind.u64.bits))=((UInt32.ofNat (n / 4294967296)).toNat:Int):=by
 have e:(2:Int)^min (32:Int).toNat IntKind.u64.bits=((4294967296:Nat):Int):=by decide
 rw [e,Int.fdiv_eq_ediv_of_nonneg _ (Int.natCast_nonneg _),UInt32.toNat_ofNat',IntKind.wrap_u32];omega
theorem Jht(n:Nat)(h:n<18446744073709551616): val [UInt32.ofNat n,UInt32.ofNat (n / 4294967296)]=n:=by
 simp only [val,UInt32.toNat_ofNat'];omega
theorem Qdl(n:Nat)(h:n<18446744073709551616)(w:World): Ret Tryz.prog 16 [.int .u64 (n:Int)] w λv w'=>NatV w' v n/\Ext w w':=by
 refine Jz Tryz.func16 Tryz.ntmps16 rfl kr rfl ?_;refine ρ ?_;refine Yw rfl rfl (by decide) rfl ?_;refine ρ ?_;refine bsl (bsN _ _) ?_;intro G b u J o;rw [Yt,Jlb]at o;have C:Rd G 1 (some ⟨b,0,none⟩) 2 (Nc [UInt32.ofNat n,UInt32.ofNat (n / 4294967296)]):=o.rd rfl;refine ρ ?_;refine cl (Kt (l:=[UInt32.ofNat n,UInt32.ofNat (n / 4294967296)]) (c:=2) C (Nat.le_refl _) (by simp)) ?_;rintro v O ⟨rfl,rfl⟩;have:=Jjl C (by simp);rw [Jht n h]at this ⊢;refine ρ ?_;exact Jj ⟨this,u⟩
def sgn(a b:Int): Int:=if a<b then -1 else if b<a then 1 else 0
theorem Jsd(x:Int)(w:World): Ret Tryz.prog 103 [.int .i64 x] w λv w'=>v=.bool false/\w'=w:=by
 refine Jz Tryz.func103 Tryz.ntmps103 rfl kr rfl ?_;refine ρ ?_;refine Jj ⟨?_,rfl⟩;simp
theorem Jtv(x y:Int)(w:World): Ret Tryz.prog 54 [.int .i64 x,.int .i64 y] w λv w'=>v=.int .i64 (sgn x y)/\w'=w:=by
 refine Jz Tryz.func54 Tryz.ntmps54 rfl kr rfl ?_;refine ρ ?_;refine cl (Jsd x w) ?_;rintro v w' ⟨rfl,rfl⟩;refine ρ ?_;refine cl (Jsd y w') ?_;rintro v u ⟨rfl,rfl⟩;refine ρ ?_;refine ci (λh=>?_) (λh=>?_)
 .refine ρ ?_;refine Jj ⟨?_,rfl⟩;rw [sgn,if_pos (oT h)]
 .refine ρ ?_;refine ci (λo=>?_) (λo=>?_)
  .refine ρ ?_;refine Jj ⟨?_,rfl⟩;rw [sgn,if_neg (oF h),if_pos (oT o)]
  .refine ρ ?_;refine Jj ⟨?_,rfl⟩;rw [sgn,if_neg (oF h),if_neg (oF o)]
theorem Jsc(x:Int)(w:World): Ret Tryz.prog 104 [.int .u32 x] w λv w'=>v=.bool false/\w'=w:=by
 refine Jz Tryz.func104 Tryz.ntmps104 rfl kr rfl ?_;refine ρ ?_;refine Jj ⟨?_,rfl⟩;simp
theorem Qlp(x y:Int)(w:World): Ret Tryz.prog 55 [.int .u32 x,.int .u32 y] w λv w'=>v=.int .i64 (sgn x y)/\w'=w:=by
 refine Jz Tryz.func55 Tryz.ntmps55 rfl kr rfl ?_;refine ρ ?_;refine cl (Jsc x w) ?_;rintro v w' ⟨rfl,rfl⟩;refine ρ ?_;refine cl (Jsc y w') ?_;rintro v u ⟨rfl,rfl⟩;refine ρ ?_;refine ci (λh=>?_) (λh=>?_)
 .refine ρ ?_;refine Jj ⟨?_,rfl⟩;rw [sgn,if_pos (oT h)]
 .refine ρ ?_;refine ci (λo=>?_) (λo=>?_)
  .refine ρ ?_;refine Jj ⟨?_,rfl⟩;rw [sgn,if_neg (oF h),if_pos (oT o)]
  .refine ρ ?_;refine Jj ⟨?_,rfl⟩;rw [sgn,if_neg (oF h),if_neg (oF o)]
theorem Jsf(x:Int)(w:World): Ret Tryz.prog 171 [.int .i64 x] w λv w'=>v=.bool false/\w'=w:=by
 refine Jz Tryz.func171 Tryz.ntmps171 rfl kr rfl ?_;refine ρ ?_;refine Jj ⟨?_,rfl⟩;simp
theorem Qlq(x y:Int)(w:World): Ret Tryz.prog 148 [.int .i64 x,.int .i64 y] w λv w'=>v=.int .i64 (sgn x y)/\w'=w:=by
 refine Jz Tryz.func148 Tryz.ntmps148 rfl kr rfl ?_;refine ρ ?_;refine cl (Jsf x w) ?_;rintro v w' ⟨rfl,rfl⟩;refine ρ ?_;refine cl (Jsf y w') ?_;rintro v u ⟨rfl,rfl⟩;refine ρ ?_;refine ci (λh=>?_) (λh=>?_)
 .refine ρ ?_;refine Jj ⟨?_,rfl⟩;rw [sgn,if_pos (oT h)]
 .refine ρ ?_;refine ci (λo=>?_) (λo=>?_)
  .refine ρ ?_;refine Jj ⟨?_,rfl⟩;rw [sgn,if_neg (oF h),if_pos (oT o)]
  .refine ρ ?_;refine Jj ⟨?_,rfl⟩;rw [sgn,if_neg (oF h),if_neg (oF o)]
theorem Jmj(n m:Nat): sgn (n:Int) (m:Int)=Yl n m:=by
 unfold sgn Yl;by_cases h:n<m
 .rw [if_pos om,if_pos h]
 .rw [if_neg om,if_neg h];by_cases h2:m<n
  .rw [if_pos om,if_pos h2]
  .rw [if_neg om,if_neg h2]
theorem Qkq{a b:UInt32}(h:((a.toNat:Int) != (b.toNat:Int))=false): a=b:=by
 have:(a.toNat:Int)=b.toNat:=by simpa using h
 apply UInt32.toNat_inj.1;omega
theorem Qkp{a b:UInt32}(h:((a.toNat:Int) != (b.toNat:Int))=true): a.toNat≠b.toNat:=by
 intro e;rw [e]at h;simp at h
theorem Jqh{v u:Value}{n m:Nat}{w:World}(hv:NatV w v n)(hu:NatV w u m): Ret Tryz.prog 18 [v,u] w λr w'=>r=.int .i64 (Yl n m)/\Ext w w':=by
 have a6:=hv;have a7:=hu;obtain ⟨_,_,_,_,aa,_⟩:=a6;obtain ⟨_,_,_,_,ab,_⟩:=a7;refine Jz Tryz.func18 Tryz.ntmps18 rfl kr rfl ?_;refine ρ ?_;refine cl (Ya hv) ?_;rintro v' w' ⟨⟨A,rfl,ha⟩,rfl⟩;refine ρ ?_;refine cl (Ya hu) ?_;rintro u' a5 ⟨⟨B,rfl,hb⟩,rfl⟩;refine ρ ?_;refine ci (λh=>?_) (λh=>?_)
 .refine ρ ?_;refine cl (Jtv _ _ _) ?_;rintro t w1 ⟨rfl,rfl⟩;refine ρ ?_;refine Jj ⟨?_,Ext.refl _⟩;rw [Jmj];have U:(Jq n).length≠(Jq m).length:=by intro e;rw [e]at h;simp at h
  unfold Yl;rcases Nat.lt_or_gt_of_ne U with h1|h1
  .rw [if_pos h1,if_pos (Jcw h1)]
  .have:=Jcw h1;rw [if_neg om,if_pos h1,if_neg om,if_pos this]
 .have J:(Jq n).length=(Jq m).length:=by
   have:((Jq n).length:Int)=(Jq m).length:=by simpa using h
   omega
  refine ρ ?_;refine Qd (λk=>[(0,.slice A (Jq n).length (Jq n).length),(1,.slice B (Jq m).length (Jq m).length),(5,.int .i64 ((k:Nat)-1:Int))]) (λk w'=>Ext a5 w'/\k<=(Jq n).length/\(Jq n).drop k=(Jq m).drop k) (λk=>k) (Jq n).length sB
   ⟨Ext.refl _,Nat.le_refl _,by rw [List.drop_length,J,List.drop_length]⟩ ?_
  rintro k w1 ⟨hx,hk,hd⟩;refine ρ ?_;refine ci (λh=>?_) (λh=>?_)
  .have a9:0<k:=by have:=oT h;omega
   have C:k-1<(Jq n).length:=om
   have o:k-1<(Jq m).length:=om
   have O:=hx.trans ((Ext.refl w1).drew);have a4:=ha.ext O;have a2:=hb.ext O;refine ρ ?_;refine dr [(0,0),(0,1),(0,2),(0,3),(0,4),(0,5),(0,6),(0,7),(0,8)] kr ?_;refine ρd ?_;refine dix (k-1) a4 C ?_;refine ρd ?_;refine dld (a4.cell (Zy C)) ?_;refine ρd ?_;refine dix (k-1) a2 o ?_;refine ρd ?_;refine dld (a2.cell (Zy o)) ?_;refine ρd ?_;refine ρ ?_;refine ci (λh=>?_) (λh=>?_)
   .have U:=Qkp h;have G:=O.trans ((Ext.refl w1.drew).drew);have a3:=ha.ext G;have a1:=hb.ext G;refine ρ ?_;refine dr [(0,0),(0,1),(0,2),(0,3),(0,4),(0,5),(0,6),(0,7),(1,8),(0,9)] kr ?_;refine ρd ?_;refine dix (k-1) a3 C ?_;refine ρd ?_;refine dld (a3.cell (Zy C)) ?_;refine ρd ?_;refine dix (k-1) a1 o ?_;refine ρd ?_;refine dld (a1.cell (Zy o)) ?_;refine ρd ?_;refine dcl (Qlp _ _ _) ?_;rintro t w2 ⟨rfl,rfl⟩;refine ⟨Ext.refl _,?_⟩;refine ρd ?_;refine ρ ?_;refine Jj ⟨?_,G⟩;rw [Jmj];unfold Yl;have Z:(Jq n).drop (k-1+1)=(Jq m).drop (k-1+1):=by rw [show k-1+1=k by omega];exact hd
    rcases Nat.lt_or_gt_of_ne U with h1|h1
    .have:=Jhv C J Z h1;rw [Zb,Zb]at this;rw [if_pos h1,if_pos this]
    .have:=Jhv o J.symm Z.symm h1;rw [Zb,Zb]at this;rw [if_neg om,if_pos h1,if_neg om,if_pos this]
   .have he:=Qkq h;refine ρ ?_;refine Qw (k-1) sO ⟨O,om,?_⟩ om;rw [List.drop_eq_getElem_cons C,List.drop_eq_getElem_cons o,show k-1+1=k by omega,hd];congr 1
    have e1:(Jq n).getD (k-1) 0=(Jq n)[k-1]:=by simp [List.getD,List.getElem?_eq_getElem C]
    have e2:(Jq m).getD (k-1) 0=(Jq m)[k-1]:=by simp [List.getD,List.getElem?_eq_getElem o]
    rw [<-e1,<-e2,he]
  .have a8:k=0:=by have:=oF h;omega
   subst a8;have:n=m:=by rw [<-Zb n,<-Zb m];exact congrArg val hd
   subst this;refine ρ ?_;refine Jj ⟨?_,hx⟩;simp [Yl]
end Go.Proofs.YtebcagekopgdhaaGreatDoor
