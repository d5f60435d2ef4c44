/- Part 5 of the proof: Nat. -/
import Derived.Test.YtefpailelagbkaaGreatDoorC03
import Derived.Test.YtefpailelagbkaaGreatDoorRows
import Derived.IntWalk
set_option linter.unusedVariables false
set_option maxRecDepth 100000
set_option maxHeartbeats 40000000
namespace Go.Proofs.YtefpailelagbkaaGreatDoor
namespace Pl
def val: List UInt32->Nat
 | []=>0
 | c::l=>c.toNat+4294967296*val l
def Jjf(n:Nat): List UInt32:=if h:n=0 then [] else UInt32.ofNat n::Jjf (n / 4294967296)
termination_by n
decreasing_by exact Nat.div_lt_self om (by decide)
theorem limbs_0: Jjf 0=[]:=by rw [Jjf];rfl
theorem Jdg{n:Nat}(h:n≠0): Jjf n=UInt32.ofNat n::Jjf (n / 4294967296):=by rw [Jjf,dif_neg h]
theorem Qcn{c:UInt32}{m:Nat}(h:c.toNat+4294967296*m≠0): Jjf (c.toNat+4294967296*m)=c::Jjf m:=by
 have i:=c.toNat_lt;rw [Jdg h];congr 1
 .apply UInt32.toNat_inj.1
  rw [UInt32.toNat_ofNat'];have:c.toNat<4294967296:=i;omega
 .congr 1
  have:c.toNat<4294967296:=i;omega
def Jkb: List UInt32->List UInt32
 | []=>[]
 | c::l=>if Jkb l=[]/\c=0 then [] else c::Jkb l
theorem val_0{l:List UInt32}(h:Jkb l=[]): val l=0:=by
 induction l with
 | nil=>rfl
 | cons c l ih=>
  simp only [Jkb]at h;split at h
  .rename_i h2;rw [val,ih h2.1,h2.2];rfl
  .cases h
theorem Jwt: ∀ l:List UInt32,Jkb l=Jjf (val l)
 | []=>by rw [val,limbs_0];rfl
 | c::l=>by
  have ih:=Jwt l;simp only [Jkb,val];split
  .rename_i h;rw [val_0 h.1,h.2];exact limbs_0.symm
  .rename_i h;rw [Qcn,ih];intro h0;apply h
   have hv:val l=0:=om
   refine ⟨?_,?_⟩
   .rw [ih,hv,limbs_0]
   .apply UInt32.toNat_inj.1
    show c.toNat=0;omega
theorem Jql(n:Nat): val (Jjf n)=n:=by
 induction n using Nat.strongRecOn with
 | ind n ih=>
  by_cases h:n=0
  .subst h;rw [limbs_0];rfl
  .rw [Jdg h,val,ih (n / 4294967296) (Nat.div_lt_self om (by decide)),UInt32.toNat_ofNat'];omega
theorem Qbk(n:Nat): Jkb (Jjf n)=Jjf n:=by rw [Jwt,Jql]
theorem Jpd(l:List UInt32): Jkb (l++[0])=Jkb l:=by
 induction l with
 | nil=>rfl
 | cons c l ih=>simp only [List.cons_append,Jkb,ih]
theorem Qfx{c:UInt32}(l:List UInt32)(h:c≠0): Jkb (l++[c])=l++[c]:=by
 induction l with
 | nil=>simp [Jkb,h]
 | cons d l ih=>simp only [List.cons_append,Jkb,ih];simp
theorem Jcj(a b:List UInt32): val (a++b)=val a+4294967296^a.length*val b:=by
 induction a with
 | nil=>simp [val]
 | cons c a ih=>rw [List.cons_append,val,val,ih,List.length_cons,Nat.pow_succ,Nat.mul_add,<-Nat.mul_assoc,Nat.mul_comm (4294967296^a.length) 4294967296];omega
theorem Qfs(a:List UInt32): val a<4294967296^a.length:=by
 induction a with
 | nil=>simp [val]
 | cons c a ih=>
  have i:c.toNat<4294967296:=c.toNat_lt;rw [val,List.length_cons,Nat.pow_succ];have:4294967296*(val a+1)<=4294967296*4294967296^a.length:=Nat.mul_le_mul_left _ ih;rw [Nat.mul_comm (4294967296^a.length)];omega
theorem Qxv{c:UInt32}(l:List UInt32)(h:c≠0): 4294967296^l.length<=val (l++[c]):=by
 have i:0<c.toNat:=by
  rcases Nat.eq_zero_or_pos c.toNat with h0|h0
  .exact absurd (UInt32.toNat_inj.1 h0) h
  .exact h0
 rw [Jcj,val];have:4294967296^l.length*1<=4294967296^l.length*(c.toNat+4294967296*val []):=Nat.mul_le_mul_left _ om;omega
theorem Qcm{n:Nat}(h:n≠0): ∃ l c,Jjf n=l++[c]/\c≠0:=by
 rcases List.eq_nil_or_concat (Jjf n) with h0|⟨l,c,h0⟩
 .have:=Jql n;rw [h0]at this;exact absurd this.symm h
 .refine ⟨l,c,by rw [h0];simp,λo=>?_⟩;subst o;have i:=Qbk n;rw [h0,List.concat_eq_append,Jpd]at i;have j:=congrArg List.length i;have u:(Jkb l).length<=l.length:=by
   clear i j h0;induction l with
   | nil=>simp [Jkb]
   | cons c l ih=>simp only [Jkb];split<;>simp;exact ih
  simp at j;omega
theorem Jgg{n:Nat}(h:n≠0): 4294967296^((Jjf n).length-1)<=n:=by
 obtain ⟨l,c,i,j⟩:=Qcm h;have:=Qxv l j;rw [<-i,Jql]at this;rw [i];simpa using this
theorem Qrf(n:Nat): n<4294967296^(Jjf n).length:=by have:=Qfs (Jjf n);rwa [Jql]at this
theorem Jmd{n m:Nat}(h:(Jjf n).length<(Jjf m).length): n<m:=by
 have i:m≠0:=λe=>by subst e;rw [limbs_0]at h;simp at h
 have u:=Jgg i;have o:=Qrf n;have j:4294967296^(Jjf n).length<=4294967296^((Jjf m).length-1):=Nat.pow_le_pow_right (by decide) om;omega
def Qfc(n m:Nat): Int:=if n<m then -1 else if m<n then 1 else 0
theorem Qfq{a b:List UInt32}{i:Nat}(ha:i<a.length)(hab:a.length=b.length)(ht:a.drop (i+1)=b.drop (i+1))(hl:(a.getD i 0).toNat<(b.getD i 0).toNat): val a<val b:=by
 have j:i<b.length:=om
 have J:a=a.take i++(a.getD i 0::a.drop (i+1)):=by
  have e:a.getD i 0=a[i]:=by simp [List.getD,List.getElem?_eq_getElem ha]
  rw [e,<-List.drop_eq_getElem_cons ha,List.take_append_drop]
 have G:b=b.take i++(b.getD i 0::b.drop (i+1)):=by
  have e:b.getD i 0=b[i]:=by simp [List.getD,List.getElem?_eq_getElem j]
  rw [e,<-List.drop_eq_getElem_cons j,List.take_append_drop]
 rw [J,G,Jcj,Jcj,val,val,ht];have C:(a.take i).length=i:=by rw [List.length_take];omega
 have u:(b.take i).length=i:=by rw [List.length_take];omega
 have o:=Qfs (a.take i);rw [C]at o ⊢;rw [u];have:4294967296^i*((a.getD i 0).toNat+1+4294967296*val (b.drop (i+1)))<=4294967296^i*((b.getD i 0).toNat+4294967296*val (b.drop (i+1))):=Nat.mul_le_mul_left _ om;rw [Nat.add_assoc,Nat.add_comm 1,<-Nat.add_assoc,Nat.mul_add,Nat.mul_one]at this;omega
end Pl
open Go.RowKit Go.Wk
def tt: TT:=[(3,{ desc:=.int .i64 }),
 (2,{ desc:=.int .i64 }),
 (5,{ desc:=.int .u8 }),
 (53,{ desc:=.int .u16 }),
 (117,{ desc:=.int .u32 }),
 (45,{ desc:=.int .u64 }),
 (118,{ desc:=.int .u64 }),
 (4,{ desc:=.bool }),
 (9,{ desc:=.string }),
 (41,{ desc:=.int .i64 }),
 (248,{ desc:=.int .i64 }),
 (262,{ desc:=.int .u64 }),
 (32,{ desc:=.slice 117,esz:=1 }),
 (22,{ desc:=.slice 4,esz:=1 }),
 (23,{ desc:=.slice 3,esz:=1 }),
 (240,{ desc:=.slice 5,esz:=1 }),
 (31,{ desc:=.slice 117,esz:=1 }),
 (40,{ desc:=.slice 71,esz:=3 }),
 (39,{ desc:=.slice 71,esz:=3 }),
 (35,{ desc:=.slice 40,esz:=1 }),
 (24,{ desc:=.slice 23,esz:=1 }),
 (25,{ desc:=.slice 35,esz:=1 }),
 (28,{ desc:=.slice 195,esz:=3 }),
 (60,{ desc:=.slice 69,esz:=3 }),
 (138,{ desc:=.slice 141,esz:=3 }),
 (29,{ desc:=.slice 138,esz:=1 }),
 (30,{ desc:=.slice 215,esz:=1 }),
 (155,{ desc:=.slice 200,esz:=1 }),
 (156,{ desc:=.slice 208,esz:=1 }),
 (201,{ desc:=.slice 239,esz:=2 }),
 (273,{ desc:=.slice 279,esz:=1 }),
 (270,{ desc:=.slice 273,esz:=1 }),
 (274,{ desc:=.slice 289,esz:=2 }),
 (304,{ desc:=.slice 32,esz:=1 }),
 (96,{ desc:=.slice 102,esz:=2 }),
 (71,{ desc:=.invalid,size:=3,offs:=[0,1,2] }),
 (67,{ desc:=.invalid,size:=2,offs:=[0,1] }),
 (69,{ desc:=.invalid,size:=3,offs:=[0,1] }),
 (62,{ desc:=.invalid,size:=5,offs:=[0,1,2,3,4] }),
 (34,{ desc:=.invalid,size:=5,offs:=[0,1,2,3,4] }),
 (27,{ desc:=.invalid,size:=6,offs:=[0,1,2,3,4,5] }),
 (114,{ desc:=.invalid,size:=5,offs:=[0,1,2,3,4] }),
 (195,{ desc:=.invalid,size:=3,offs:=[0,1,2] }),
 (150,{ desc:=.invalid,size:=2,offs:=[0,1] }),
 (126,{ desc:=.invalid,size:=2,offs:=[0,1] }),
 (172,{ desc:=.invalid,size:=4,offs:=[0,3] }),
 (174,{ desc:=.invalid,size:=9,offs:=[0,4,5,6,7,8] }),
 (141,{ desc:=.invalid,size:=3,offs:=[0,1] }),
 (239,{ desc:=.invalid,size:=2,offs:=[0,1] }),
 (158,{ desc:=.invalid,size:=10,offs:=[0,5,6,7,8,9] }),
 (131,{ desc:=.invalid,size:=9,offs:=[0,5,6,7,8] }),
 (87,{ desc:=.invalid,size:=7,offs:=[0,5,6] }),
 (272,{ desc:=.invalid,size:=4,offs:=[0,1,2,3] }),
 (289,{ desc:=.invalid,size:=2,offs:=[0,1] }),
 (276,{ desc:=.invalid,size:=1,offs:=[0] }),
 (292,{ desc:=.invalid,size:=2,offs:=[0,1] }),
 (295,{ desc:=.invalid,size:=69,offs:=[0,1,2,4,68] }),
 (102,{ desc:=.invalid,size:=2,offs:=[0,1] }),
 (121,{ desc:=.pointer 131 }),
 (124,{ desc:=.pointer 174 }),
 (199,{ desc:=.pointer 158 }),
 (210,{ desc:=.pointer 141 }),
 (269,{ desc:=.pointer 272 }),
 (279,{ desc:=.pointer 295 }),
 (266,{ desc:=.pointer 3 }),
 (283,{ desc:=.pointer 262 }),
 (191,{ desc:=.array 32 3,size:=32,esz:=1 }),
 (192,{ desc:=.array 32 117,size:=32,esz:=1 }),
 (293,{ desc:=.array 32 292,size:=64,esz:=2 }),
 (300,{ desc:=.array 24 5,size:=24,esz:=1 }),
 (185,{ desc:=.func #[40] #[4] false }),
 (215,{ desc:=.map 9 3 }),
 (200,{ desc:=.map 9 4 }),
 (208,{ desc:=.map 9 32 }),
 (129,{ desc:=.map 3 126 }),
 (175,{ desc:=.func #[124] #[3] false })]
theorem Qfw: TOk Tryz.prog tt:=⟨⟨kr,kr⟩,
 ⟨kr,kr⟩,
 ⟨kr,kr⟩,
 ⟨kr,kr⟩,
 ⟨kr,kr⟩,
 ⟨kr,kr⟩,
 ⟨kr,kr⟩,
 ⟨kr,kr⟩,
 ⟨kr,kr⟩,
 ⟨kr,kr⟩,
 ⟨kr,kr⟩,
 ⟨kr,kr⟩,
 ⟨kr,kr,kr⟩,
 ⟨kr,kr,kr⟩,
 ⟨kr,kr,kr⟩,
 ⟨kr,kr,kr⟩,
 ⟨kr,kr,kr⟩,
 ⟨kr,kr,kr⟩,
 ⟨kr,kr,kr⟩,
 ⟨kr,kr,kr⟩,
 ⟨kr,kr,kr⟩,
 ⟨kr,kr,kr⟩,
 ⟨kr,kr,kr⟩,
 ⟨kr,kr,kr⟩,
 ⟨kr,kr,kr⟩,
 ⟨kr,kr,kr⟩,
 ⟨kr,kr,kr⟩,
 ⟨kr,kr,kr⟩,
 ⟨kr,kr,kr⟩,
 ⟨kr,kr,kr⟩,
 ⟨kr,kr,kr⟩,
 ⟨kr,kr,kr⟩,
 ⟨kr,kr,kr⟩,
 ⟨kr,kr,kr⟩,
 ⟨kr,kr,kr⟩,
 ⟨_,Tryz.underlying71,kr,kr⟩,
 ⟨_,Tryz.underlying67,kr,kr⟩,
 ⟨_,Tryz.underlying69,kr,kr⟩,
 ⟨_,Tryz.underlying62,kr,kr⟩,
 ⟨_,Tryz.underlying34,kr,kr⟩,
 ⟨_,Tryz.underlying27,kr,kr⟩,
 ⟨_,Tryz.underlying114,kr,kr⟩,
 ⟨_,Tryz.underlying195,kr,kr⟩,
 ⟨_,Tryz.underlying150,kr,kr⟩,
 ⟨_,Tryz.underlying126,kr,kr⟩,
 ⟨_,Tryz.underlying172,kr,kr⟩,
 ⟨_,Tryz.underlying174,kr,kr⟩,
 ⟨_,Tryz.underlying141,kr,kr⟩,
 ⟨_,Tryz.underlying239,kr,kr⟩,
 ⟨_,Tryz.underlying158,kr,kr⟩,
 ⟨_,Tryz.underlying131,kr,kr⟩,
 ⟨_,Tryz.underlying87,kr,kr⟩,
 ⟨_,Tryz.underlying272,kr,kr⟩,
 ⟨_,Tryz.underlying289,kr,kr⟩,
 ⟨_,Tryz.underlying276,kr,kr⟩,
 ⟨_,Tryz.underlying292,kr,kr⟩,
 ⟨_,Tryz.underlying295,kr,kr⟩,
 ⟨_,Tryz.underlying102,kr,kr⟩,
 ⟨kr,kr⟩,
 ⟨kr,kr⟩,
 ⟨kr,kr⟩,
 ⟨kr,kr⟩,
 ⟨kr,kr⟩,
 ⟨kr,kr⟩,
 ⟨kr,kr⟩,
 ⟨kr,kr⟩,
 ⟨kr,kr,kr⟩,
 ⟨kr,kr,kr⟩,
 ⟨kr,kr,kr⟩,
 ⟨kr,kr,kr⟩,
 ⟨kr,kr⟩,
 ⟨kr,kr⟩,
 ⟨kr,kr⟩,
 ⟨kr,kr⟩,
 ⟨kr,kr⟩,
 ⟨kr,kr⟩,trivial⟩
theorem mixed: Tryz.prog.follows .mixedOrders=true:=kr
instance:Tab Tryz.prog tt:=⟨Qfw,mixed⟩
theorem EN: ElT Tryz.prog 32 117 1 4 (.int .u32 0):=⟨Tryz.underlying32,info_parts kr,rfl,by decide⟩
theorem EV: ElT Tryz.prog 40 71 3 32 (.agg #[.int .i64 0,.int .i64 0,.string ⟨#[]⟩]):=⟨Tryz.underlying40,info_parts kr,rfl,by decide⟩
theorem ER: ElT Tryz.prog 35 40 1 24 (.slice none 0 0):=⟨Tryz.underlying35,info_parts kr,rfl,by decide⟩
theorem bsN(x y:Int)(w:World): (Instr.buildSlice 32 2 #[(0,.int .u32 x),(1,.int .u32 y)]).run Tryz.prog w=.ok (.slice (some ⟨w.heap.size,0,none⟩) 2 2) (w.alloc (.cells #[.int .u32 x,.int .u32 y] 117)):=kr
open Go.RowKit Pl Go.Wk
attribute [local irreducible] WC WL QX WD WDB
def Nc(l:List UInt32): List Value:=l.map λc=>.int .u32 (c.toNat:Int)
theorem Xbw(l:List UInt32): (Nc l).length=l.length:=by simp [Nc]
theorem Jzm{l:List UInt32}{k:Nat}(h:k<l.length): (Nc l)[k]?=some (.int .u32 ((l.getD k 0).toNat:Int)):=by simp [Nc,List.getD,List.getElem?_eq_getElem h]
theorem Xkb(l:List UInt32)(k:Nat): (Nc l).take k=Nc (l.take k):=by simp [Nc]
theorem Qnl(l:List UInt32): ∀ u∈Nc l,u.oneCell'=true:=by
 intro u i;simp [Nc]at i;obtain ⟨c,_,rfl⟩:=i;rfl
def NatV(w:World)(v:Value)(n:Nat): Prop:=∃ A c,v=.slice A (Jjf n).length c/\(Jjf n).length<=c/\(Jjf n).length<=4611686018427387904/\Rd w 1 A (Jjf n).length (Nc (Jjf n))
theorem NatV.ext{w w':World}{v:Value}{n:Nat}(h:NatV w v n)(hx:Ext w w'): NatV w' v n:=by
 obtain ⟨A,c,u,o,j,i⟩:=h;exact ⟨A,c,u,o,j,i.ext hx⟩
theorem NatV.nil(w:World): NatV w (.slice none 0 0) 0:=⟨none,0,by rw [limbs_0];rfl,by rw [limbs_0];simp,by rw [limbs_0];simp,by rw [limbs_0];exact Rd.nil⟩
theorem Jhq: ∀ l:List UInt32,Jkb l=l.take (Jkb l).length
 | []=>rfl
 | c::l=>by
  simp only [Jkb];split
  .rfl
  .rw [List.length_cons,List.take_succ_cons,<-Jhq l]
theorem Qfz(l:List UInt32): (Jkb l).length<=l.length:=by
 have:=congrArg List.length (Jhq l);rw [List.length_take]at this;omega
theorem Jfc{w:World}{A:Option Addr}{l:List UInt32}(hr:Rd w 1 A l.length (Nc l))(hm:l.length<=4611686018427387904): NatV w (.slice A (Jjf (val l)).length (Jjf (val l)).length) (val l):=by
 have h:=hr.take (m:=(Jkb l).length) (Qfz l);rw [Nat.mul_one,Xkb,<-Jhq]at h;have:=Qfz l;rw [<-Jwt];exact ⟨A,(Jkb l).length,by rw [<-Jwt],by rw [<-Jwt];exact Nat.le_refl _,by rw [<-Jwt];omega,by rw [<-Jwt];exact h⟩
theorem Jvs{A:Option Addr}{l:List UInt32}{c:Nat}{w:World}(hr:Rd w 1 A l.length (Nc l))(hc:l.length<=c)(hm:l.length<=4611686018427387904):
  Ret Tryz.prog 57 [.slice A l.length c] w λv w'=>v=.slice A (Jjf (val l)).length (Jjf (val l)).length/\w'=w:=by
 refine Jjc Tryz.func57 Tryz.ntmps57 rfl kr rfl ?_;refine ρ ?_;have C:∀ k,k<=l.length->Jkb (l.take k)=Jkb l->Jkb (l.take k)=l.take k->k=(Jjf (val l)).length:=λk u Z U=>by
  rw [<-Jwt,<-Z,U,List.length_take];omega
 refine Jqq (λk=>[(0,.slice A l.length c),(3,.int .i64 ((k:Nat):Int))]) (λk w'=>w'=w/\k<=l.length/\Jkb (l.take k)=Jkb l) (λk=>k) l.length sB ⟨rfl,Nat.le_refl _,by rw [List.take_length]⟩ ?_;rintro k w' ⟨rfl,u,hn⟩;have done:∀ k,k=(Jjf (val l)).length->k<=l.length->(Value.slice A k k)=.slice A (Jjf (val l)).length (Jjf (val l)).length:=λk h _=>by rw [h]
 refine ρ ?_;refine ki 8 (λh=>?_) (λh=>?_)
 .have O:0<k:=by have:=oT h;omega
  have i:k-1<l.length:=om
  have o:l.take k=l.take (k-1)++[l.getD (k-1) 0]:=by
   have e:=List.take_succ_eq_append_getElem i;rw [show k-1+1=k by omega]at e;rw [e];simp [List.getD,List.getElem?_eq_getElem i]
  refine ρ ?_;refine ix (k-1) hr i ?_;refine ρ ?_;refine ld (hr.cell (Jzm i)) ?_;refine ρ ?_;refine ci (λh0=>?_) (λh0=>?_)
  .have G:l.getD (k-1) 0=0:=by
    have:=Jqn h0;apply UInt32.toNat_inj.1
    show (l.getD (k-1) 0).toNat=0;omega
   refine ρ ?_;refine Jjv (k-1) sO ⟨rfl,om,?_⟩ om;rw [<-hn,o,G,Jpd]
  .have G:l.getD (k-1) 0≠0:=by
    have:=Jqk h0;intro e;rw [e]at this;exact this rfl
   have j:=C k u hn (by rw [o];exact Qfx _ G);refine ρ ?_;refine Qwj Qfw 0 k k A k k rfl rfl rfl rfl rfl ⟨_,_,rfl,rfl⟩ ⟨_,_,rfl,rfl⟩ (.inr (by simp)) (Nat.zero_le _) (Nat.le_refl _) om (cut0 A _ _) rfl rfl rfl ?_;refine ρ ?_;exact Jjq ⟨done k j u,rfl⟩
 .have J:k=0:=by have:=oF h;omega
  subst J;have j:=C 0 u hn rfl;refine ρ ?_;refine Qwj Qfw 0 0 0 A 0 0 rfl rfl rfl rfl rfl ⟨_,_,rfl,rfl⟩ ⟨_,_,rfl,rfl⟩ (.inr (by simp)) (Nat.zero_le _) (Nat.le_refl _) om (cut0 A _ _) rfl rfl rfl ?_;refine ρ ?_;exact Jjq ⟨done 0 j u,rfl⟩
theorem Jhr{w:World}{v:Value}{n:Nat}(h:NatV w v n): Ret Tryz.prog 57 [v] w λv' w'=>(∃ A,v'=.slice A (Jjf n).length (Jjf n).length/\Rd w 1 A (Jjf n).length (Nc (Jjf n)))/\w'=w:=by
 obtain ⟨A,c,rfl,o,j,i⟩:=h;refine (Jvs i o j).mono ?_;rintro v w' ⟨rfl,rfl⟩;rw [Jql];exact ⟨⟨A,rfl,i⟩,rfl⟩
theorem Jhp(n:Nat): IntKind.u32.wrap (n:Int)=((UInt32.ofNat n).toNat:Int):=by
 rw [UInt32.toNat_ofNat',IntKind.wrap_u32];omega
theorem Xwh(n:Nat): IntKind.u32.wrap ((n:Int).fdiv (2^min (32:Int).toNat IntKind.u64.bits))=((UInt32.ofNat (n / 4294967296)).toNat:Int):=by
 have e:(2:Int)^min (32:Int).toNat IntKind.u64.bits=((4294967296:Nat):Int):=by decide
 rw [e,Int.fdiv_eq_ediv_of_nonneg _ (Int.natCast_nonneg _),UInt32.toNat_ofNat',IntKind.wrap_u32];omega
theorem Qfp(n:Nat)(h:n<18446744073709551616): val [UInt32.ofNat n,UInt32.ofNat (n / 4294967296)]=n:=by
 simp only [val,UInt32.toNat_ofNat'];omega
theorem Qht(n:Nat)(h:n<18446744073709551616)(w:World): Ret Tryz.prog 18 [.int .u64 (n:Int)] w λv w'=>NatV w' v n/\Ext w w':=by
 refine Jjc Tryz.func18 Tryz.ntmps18 rfl kr rfl ?_;refine ρ ?_;refine Qdw rfl rfl (by decide) rfl ?_;refine ρ ?_;refine bsl (bsN _ _) ?_;intro u b j C i;rw [Jhp,Xwh]at i;have o:Rd u 1 (some ⟨b,0,none⟩) 2 (Nc [UInt32.ofNat n,UInt32.ofNat (n / 4294967296)]):=i.rd rfl;refine ρ ?_;refine cl (Jvs (l:=[UInt32.ofNat n,UInt32.ofNat (n / 4294967296)]) (c:=2) o (Nat.le_refl _) (by simp)) ?_;rintro v G ⟨rfl,rfl⟩;have:=Jfc o (by simp);rw [Qfp n h]at this ⊢;refine ρ ?_;exact Jjq ⟨this,j⟩
def sgn(a b:Int): Int:=if a<b then -1 else if b<a then 1 else 0
theorem Qqj(x:Int)(w:World): Ret Tryz.prog 134 [.int .i64 x] w λv w'=>v=.bool false/\w'=w:=by
 refine Jjc Tryz.func134 Tryz.ntmps134 rfl kr rfl ?_;refine ρ ?_;refine Jjq ⟨?_,rfl⟩;simp
theorem Jmw(x y:Int)(w:World): Ret Tryz.prog 87 [.int .i64 x,.int .i64 y] w λv w'=>v=.int .i64 (sgn x y)/\w'=w:=by
 refine Jjc Tryz.func87 Tryz.ntmps87 rfl kr rfl ?_;refine ρ ?_;refine cl (Qqj x w) ?_;rintro v w' ⟨rfl,rfl⟩;refine ρ ?_;refine cl (Qqj y w') ?_;rintro v j ⟨rfl,rfl⟩;refine ρ ?_;refine ci (λh=>?_) (λh=>?_)
 .refine ρ ?_;refine Jjq ⟨?_,rfl⟩;rw [sgn,if_pos (oT h)]
 .refine ρ ?_;refine ci (λi=>?_) (λi=>?_)
  .refine ρ ?_;refine Jjq ⟨?_,rfl⟩;rw [sgn,if_neg (oF h),if_pos (oT i)]
  .refine ρ ?_;refine Jjq ⟨?_,rfl⟩;rw [sgn,if_neg (oF h),if_neg (oF i)]
theorem Qqh(x:Int)(w:World): Ret Tryz.prog 135 [.int .u32 x] w λv w'=>v=.bool false/\w'=w:=by
 refine Jjc Tryz.func135 Tryz.ntmps135 rfl kr rfl ?_;refine ρ ?_;refine Jjq ⟨?_,rfl⟩;simp
theorem Qkm(x y:Int)(w:World): Ret Tryz.prog 88 [.int .u32 x,.int .u32 y] w λv w'=>v=.int .i64 (sgn x y)/\w'=w:=by
 refine Jjc Tryz.func88 Tryz.ntmps88 rfl kr rfl ?_;refine ρ ?_;refine cl (Qqh x w) ?_;rintro v w' ⟨rfl,rfl⟩;refine ρ ?_;refine cl (Qqh y w') ?_;rintro v j ⟨rfl,rfl⟩;refine ρ ?_;refine ci (λh=>?_) (λh=>?_)
 .refine ρ ?_;refine Jjq ⟨?_,rfl⟩;rw [sgn,if_pos (oT h)]
 .refine ρ ?_;refine ci (λi=>?_) (λi=>?_)
  .refine ρ ?_;refine Jjq ⟨?_,rfl⟩;rw [sgn,if_neg (oF h),if_pos (oT i)]
  .refine ρ ?_;refine Jjq ⟨?_,rfl⟩;rw [sgn,if_neg (oF h),if_neg (oF i)]
theorem Qqk(x:Int)(w:World): Ret Tryz.prog 147 [.int .i64 x] w λv w'=>v=.bool false/\w'=w:=by
 refine Jjc Tryz.func147 Tryz.ntmps147 rfl kr rfl ?_;refine ρ ?_;refine Jjq ⟨?_,rfl⟩;simp
theorem Qkn(x y:Int)(w:World): Ret Tryz.prog 110 [.int .i64 x,.int .i64 y] w λv w'=>v=.int .i64 (sgn x y)/\w'=w:=by
 refine Jjc Tryz.func110 Tryz.ntmps110 rfl kr rfl ?_;refine ρ ?_;refine cl (Qqk x w) ?_;rintro v w' ⟨rfl,rfl⟩;refine ρ ?_;refine cl (Qqk y w') ?_;rintro v j ⟨rfl,rfl⟩;refine ρ ?_;refine ci (λh=>?_) (λh=>?_)
 .refine ρ ?_;refine Jjq ⟨?_,rfl⟩;rw [sgn,if_pos (oT h)]
 .refine ρ ?_;refine ci (λi=>?_) (λi=>?_)
  .refine ρ ?_;refine Jjq ⟨?_,rfl⟩;rw [sgn,if_neg (oF h),if_pos (oT i)]
  .refine ρ ?_;refine Jjq ⟨?_,rfl⟩;rw [sgn,if_neg (oF h),if_neg (oF i)]
theorem Qgm(n m:Nat): sgn (n:Int) (m:Int)=Qfc n m:=by
 unfold sgn Qfc;by_cases h:n<m
 .rw [if_pos om,if_pos h]
 .rw [if_neg om,if_neg h];by_cases h2:m<n
  .rw [if_pos om,if_pos h2]
  .rw [if_neg om,if_neg h2]
theorem Xwk{a b:UInt32}(h:((a.toNat:Int) != (b.toNat:Int))=false): a=b:=by
 have:(a.toNat:Int)=b.toNat:=by simpa using h
 apply UInt32.toNat_inj.1;omega
theorem Xwj{a b:UInt32}(h:((a.toNat:Int) != (b.toNat:Int))=true): a.toNat≠b.toNat:=by
 intro e;rw [e]at h;simp at h
theorem Jwh{v u:Value}{n m:Nat}{w:World}(hv:NatV w v n)(hu:NatV w u m): Ret Tryz.prog 37 [v,u] w λr w'=>r=.int .i64 (Qfc n m)/\Ext w w':=by
 have a4:=hv;have a5:=hu;obtain ⟨_,_,_,_,a8,_⟩:=a4;obtain ⟨_,_,_,_,a9,_⟩:=a5;refine Jjc Tryz.func37 Tryz.ntmps37 rfl kr rfl ?_;refine ρ ?_;refine cl (Jhr hv) ?_;rintro v' w' ⟨⟨A,rfl,ha⟩,rfl⟩;refine ρ ?_;refine cl (Jhr hu) ?_;rintro u' a3 ⟨⟨B,rfl,hb⟩,rfl⟩;refine ρ ?_;refine ci (λh=>?_) (λh=>?_)
 .refine ρ ?_;refine cl (Jmw _ _ _) ?_;rintro t w1 ⟨rfl,rfl⟩;refine ρ ?_;refine Jjq ⟨?_,Ext.refl _⟩;rw [Qgm];have J:(Jjf n).length≠(Jjf m).length:=by intro e;rw [e]at h;simp at h
  unfold Qfc;rcases Nat.lt_or_gt_of_ne J with h1|h1
  .rw [if_pos h1,if_pos (Jmd h1)]
  .have:=Jmd h1;rw [if_neg om,if_pos h1,if_neg om,if_pos this]
 .have C:(Jjf n).length=(Jjf m).length:=by
   have:((Jjf n).length:Int)=(Jjf m).length:=by simpa using h
   omega
  refine ρ ?_;refine Jqq (λk=>[(0,.slice A (Jjf n).length (Jjf n).length),(1,.slice B (Jjf m).length (Jjf m).length),(5,.int .i64 ((k:Nat)-1:Int))]) (λk w'=>Ext a3 w'/\k<=(Jjf n).length/\(Jjf n).drop k=(Jjf m).drop k) (λk=>k) (Jjf n).length sB
   ⟨Ext.refl _,Nat.le_refl _,by rw [List.drop_length,C,List.drop_length]⟩ ?_
  rintro k w1 ⟨hx,hk,hd⟩;refine ρ ?_;refine ci (λh=>?_) (λh=>?_)
  .have a7:0<k:=by have:=oT h;omega
   have j:k-1<(Jjf n).length:=om
   have i:k-1<(Jjf m).length:=om
   have G:=hx.trans ((Ext.refl w1).drew);have a2:=ha.ext G;have Z:=hb.ext G;refine ρ ?_;refine dr [(0,0),(0,1),(0,2),(0,3),(0,4),(0,5),(0,6),(0,7),(0,8)] kr ?_;refine ρd ?_;refine dix (k-1) a2 j ?_;refine ρd ?_;refine dld (a2.cell (Jzm j)) ?_;refine ρd ?_;refine dix (k-1) Z i ?_;refine ρd ?_;refine dld (Z.cell (Jzm i)) ?_;refine ρd ?_;refine ρ ?_;refine ci (λh=>?_) (λh=>?_)
   .have J:=Xwj h;have o:=G.trans ((Ext.refl w1.drew).drew);have a1:=ha.ext o;have U:=hb.ext o;refine ρ ?_;refine dr [(0,0),(0,1),(0,2),(0,3),(0,4),(0,5),(0,6),(0,7),(1,8),(0,9)] kr ?_;refine ρd ?_;refine dix (k-1) a1 j ?_;refine ρd ?_;refine dld (a1.cell (Jzm j)) ?_;refine ρd ?_;refine dix (k-1) U i ?_;refine ρd ?_;refine dld (U.cell (Jzm i)) ?_;refine ρd ?_;refine dcl (Qkm _ _ _) ?_;rintro t w2 ⟨rfl,rfl⟩;refine ⟨Ext.refl _,?_⟩;refine ρd ?_;refine ρ ?_;refine Jjq ⟨?_,o⟩;rw [Qgm];unfold Qfc;have O:(Jjf n).drop (k-1+1)=(Jjf m).drop (k-1+1):=by rw [show k-1+1=k by omega];exact hd
    rcases Nat.lt_or_gt_of_ne J with h1|h1
    .have:=Qfq j C O h1;rw [Jql,Jql]at this;rw [if_pos h1,if_pos this]
    .have:=Qfq i C.symm O.symm h1;rw [Jql,Jql]at this;rw [if_neg om,if_pos h1,if_neg om,if_pos this]
   .have he:=Xwk h;refine ρ ?_;refine Jjv (k-1) sO ⟨G,om,?_⟩ om;rw [List.drop_eq_getElem_cons j,List.drop_eq_getElem_cons i,show k-1+1=k by omega,hd];congr 1
    have e1:(Jjf n).getD (k-1) 0=(Jjf n)[k-1]:=by simp [List.getD,List.getElem?_eq_getElem j]
    have e2:(Jjf m).getD (k-1) 0=(Jjf m)[k-1]:=by simp [List.getD,List.getElem?_eq_getElem i]
    rw [<-e1,<-e2,he]
  .have a6:k=0:=by have:=oF h;omega
   subst a6;have:n=m:=by rw [<-Jql n,<-Jql m];exact congrArg val hd
   subst this;refine ρ ?_;refine Jjq ⟨?_,hx⟩;simp [Qfc]
end Go.Proofs.YtefpailelagbkaaGreatDoor
