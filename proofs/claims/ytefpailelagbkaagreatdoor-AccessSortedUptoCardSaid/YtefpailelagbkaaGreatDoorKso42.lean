/- Part 0 of the proof: Mem, Nat4, Of, Rel4, Rf1, Rf2, Rf3. -/
import Derived.Test.YtefpailelagbkaaGreatDoorJ00
import Derived.Test.YtefpailelagbkaaGreatDoorJ01
import Derived.Test.YtefpailelagbkaaGreatDoorJ02
import Derived.Test.YtefpailelagbkaaGreatDoorJ03
import Derived.Test.YtefpailelagbkaaGreatDoorJ04
import Derived.Test.YtefpailelagbkaaGreatDoorJ05
import Derived.Test.YtefpailelagbkaaGreatDoorJ06
import Derived.Test.YtefpailelagbkaaGreatDoorJ07
import Derived.Test.YtefpailelagbkaaGreatDoorJ08
import Derived.Test.YtefpailelagbkaaGreatDoorJ09
import Derived.Test.YtefpailelagbkaaGreatDoorJ10
import Derived.Test.YtefpailelagbkaaGreatDoorJ11
import Derived.Test.YtefpailelagbkaaGreatDoorJ12
import Derived.Test.YtefpailelagbkaaGreatDoorJ13
import Derived.Test.YtefpailelagbkaaGreatDoorJ14
import Derived.Test.YtefpailelagbkaaGreatDoorJ15
import Derived.Test.YtefpailelagbkaaGreatDoorJ16
import Derived.Test.YtefpailelagbkaaGreatDoorJ17
import Derived.Test.YtefpailelagbkaaGreatDoorJ18
import Derived.Test.YtefpailelagbkaaGreatDoorJ19
import Derived.Test.YtefpailelagbkaaGreatDoorJ20
import Derived.Test.YtefpailelagbkaaGreatDoorJ21
import Derived.Test.YtefpailelagbkaaGreatDoorJ22
import Derived.Test.YtefpailelagbkaaGreatDoorJ23
import Derived.Test.YtefpailelagbkaaGreatDoorJ24
import Derived.Test.YtefpailelagbkaaGreatDoorJ25
import Derived.Test.YtefpailelagbkaaGreatDoorJ26
import Derived.Test.YtefpailelagbkaaGreatDoorJ27
import Derived.Test.YtefpailelagbkaaGreatDoorJ28
import Derived.Test.YtefpailelagbkaaGreatDoorJ29
import Derived.Test.YtefpailelagbkaaGreatDoorJ30
import Derived.Test.YtefpailelagbkaaGreatDoorJ31
import Derived.Test.YtefpailelagbkaaGreatDoorJ32
import Derived.Test.YtefpailelagbkaaGreatDoorJ33
import Derived.Test.YtefpailelagbkaaGreatDoorJ34
import Derived.Test.YtefpailelagbkaaGreatDoorJ35
import Derived.Test.YtefpailelagbkaaGreatDoorJ36
import Derived.Test.YtefpailelagbkaaGreatDoorJ37
import Derived.Test.YtefpailelagbkaaGreatDoorJ38
import Derived.Test.YtefpailelagbkaaGreatDoorJ39
import Derived.Test.YtefpailelagbkaaGreatDoorJ40
import Derived.Test.YtefpailelagbkaaGreatDoorJ41
import Derived.Maps.AppendAt
import Derived.ArgAppend
import Derived.Laws.OwnMore
import Derived.Laws.BytesArg
import Derived.OwnWalk
import Derived.Deep.AppendLies
import Derived.Deep.Onto
import Derived.Laws.Cover3
import Derived.Lib.Bytealg
import Derived.ChangeKeysEq
set_option linter.unusedVariables false
set_option maxRecDepth 100000
set_option maxHeartbeats 40000000
namespace Go.Wk
open Go.RowKit
section
variable {w w':World} {sz n:Nat} {A:Option Addr} {cs:List Value}
end
section
variable {w w':World} {g:Nat} {t:TypeId} {cs:List Value}
end
section
variable {P:Program} {n:Nat} {al:AL} {w:World}
end
section
variable {P:Program} {n:Nat} {al:AL} {w:World} {Q:Exit->Act->World->Prop} {ops:Array Oper} {rest:List Oper}
variable {d ty:Nat} {op:Op} {pos:String} {aft:Array Edge} {tt:TT}
theorem Blk.one{w:World}{g:Nat}{t:TypeId}{v:Value}(h:Blk w g t [v]): Rd w 1 (some ⟨g,0,none⟩) 1 [v]:=h.rd (by simp)
end
end Go.Wk
namespace Go.Wk
open Go.RowKit
section
variable {P:Program} {n:Nat} {al:AL} {w:World} {Q:Exit->Act->World->Prop} {ops:Array Oper} {rest:List Oper}
variable {d ty:Nat} {op:Op} {pos:String} {aft:Array Edge} {tt:TT}
end
end Go.Wk
namespace Go.Proofs.YtefpailelagbkaaGreatDoor
open Go.RowKit Pl Go.Wk
attribute [local irreducible] WC WL QX WD WDB
open Go.RowKit Pl Go.Wk
theorem small_len{n:Nat}(h:n<18446744073709551616): (Jjf n).length<=2:=by
 rcases Nat.lt_or_ge 2 (Jjf n).length with h1|h1
 ·have hn:n≠0:=λe=>by subst e;rw [limbs_0]at h1;simp at h1
  have j:=Jfw hn;have i:4294967296^2<=4294967296^((Jjf n).length-1):=Nat.pow_le_pow_right (by omega) (by omega);omega
 ·exact h1
theorem or_limb{a:Nat}(k:Nat)(hk:k<2)(h:a<4294967296^k)(c:UInt32): bits .or .u64 (a:Int) (IntKind.u64.wrap (IntKind.u64.wrap (c.toNat:Int)*2^min (32*(k:Int)).toNat IntKind.u64.bits))=((a+4294967296^k*c.toNat:Nat):Int):=by
 have D:c.toNat<4294967296:=c.toNat_lt;have j:IntKind.u64.wrap (c.toNat:Int)=(c.toNat:Int):=by rw [IntKind.wrap_u64];omega
 rw [j];match k,hk with
 | 0,_=>
  have o:a=0:=by simpa using h
  subst o;have i:(2:Int)^min (32*((0:Nat):Int)).toNat IntKind.u64.bits=1:=by decide
  rw [i,Int.mul_one,j];have:=u64_or_nat 0 c.toNat (by omega) (by omega);rw [Nat.zero_or]at this;simpa using this
 | 1,_=>
  have i:(2:Int)^min (32*((1:Nat):Int)).toNat IntKind.u64.bits=4294967296:=by decide
  have C:IntKind.u64.wrap ((c.toNat:Int)*4294967296)=((c.toNat*4294967296:Nat):Int):=by rw [IntKind.wrap_u64];omega
  have u:a<4294967296:=by simpa using h
  rw [i,C,u64_or_nat _ _ (by omega) (by omega)];have:=nat_join 32 (c.toNat*4294967296) a (by simp) u;rw [Nat.or_comm,this];omega
theorem natUint64_any{v:Value}{n:Nat}{w:World}(hv:NatV w v n)(h:n<18446744073709551616): Ret Tryz.prog 26 [v] w λr w'=>r=.tuple #[.int .u64 (n:Int),.bool true]/\w'=w:=by
 have O:=small_len h;refine Jjc Tryz.func26 Tryz.ntmps26 rfl (by kernel_rfl) rfl ?_;refine ρ ?_;refine cl (Jhf hv) ?_;rintro J w' ⟨⟨A,rfl,G⟩,rfl⟩;refine ρ ?_;refine Xzp rfl (dF (by omega)) ?_;refine ρ ?_;refine Jqw (λk=>[(4,.int .u64 ((val ((Jjf n).take k):Nat):Int)),(0,.slice A (Jjf n).length (Jjf n).length),(12,.int .i64 ((Jjf n).length:Int)),(13,.int .i64 ((k:Nat):Int))]) (λk D=>D=w'/\k<=(Jjf n).length) (λk=>(Jjf n).length-k) 0 sB ⟨rfl,Nat.zero_le _⟩ ?_;rintro k D ⟨rfl,U⟩;refine ρ ?_;refine ci (λh=>?_) (λh=>?_)
 ·have i:k<(Jjf n).length:=by have:=oT h;omega
  refine ρ ?_;refine ix k G i ?_;refine ρ ?_;refine ld (G.cell (Jzh i)) ?_;refine ρ ?_;refine wshl rfl rfl (by omega) rfl ?_;refine ρ ?_;have j:=Qdm ((Jjf n).take k);have o:((Jjf n).take k).length=k:=by rw [List.length_take];omega
  rw [o]at j;have u:(Jjf n).take (k+1)=(Jjf n).take k++[(Jjf n).getD k 0]:=by
   rw [List.take_succ_eq_append_getElem i];simp [List.getD,List.getElem?_eq_getElem i]
  refine Jjx (k+1) (Sub.cons (congrArg (λz=>some (Value.int .u64 z)) ?_) sB) ⟨rfl,by omega⟩ (by omega);rw [or_limb k (by omega) j,u,Jcc,o];simp [val]
 ·have C:k=(Jjf n).length:=by have:=oF h;omega
  subst C;refine ρ ?_;refine Qwv ⟨?_,rfl⟩;rw [List.take_length,Jqh]
open Go.RowKit Pl Go.Wk
open Go.RowKit Pl Go.Wk
end Go.Proofs.YtefpailelagbkaaGreatDoor
namespace Go.Proofs.YtefpailelagbkaaGreatDoor
namespace Pl
end Pl
open Go.RowKit Pl Go.Wk
attribute [local irreducible] WC WL QX WD WDB
open Go.RowKit Pl Go.Wk
attribute [local irreducible] WP
theorem RowX.grown{w w':World}{N:Nat->Prop}{g:Option Nat}{v:Value}{r:List V}(h:RowX w N v r)(hg:w.grownBy w' g)(hN:∀ k,g=some k->N k): RowX w' N v r:=by
 obtain ⟨A,c,C,u,o,j,i⟩:=h;refine ⟨A,c,C,u,o,?_,i⟩;by_cases h0:r=[]
 ·subst h0;exact Rd.nil
 ·exact Rd.grown j hg (λG e D=>i h0 G e (hN _ D))
end Go.Proofs.YtefpailelagbkaaGreatDoor
namespace Go.Proofs.YtefpailelagbkaaGreatDoor
open Pl
open Go.RowKit Pl Go.Wk
attribute [local irreducible] WC WL QX WD WDB WP
def OwnR(w:World)(base:Nat)(v:Value)(ls:List Row): Prop:=∃ ps:List Pr,ls=ps.map (·.2)/\w.ownsRow base 40 1 v ps.length (ps.map (·.1))/\∀ p∈ps,RowX w (own base v) p.1 p.2
theorem OwnR.nil(w:World)(base:Nat): OwnR w base (.slice none 0 0) []:=⟨[],rfl,Jxm _ _ _ _,λp i=>by cases i⟩
theorem OwnR.ext{w w':World}{base:Nat}{v:Value}{ls:List Row}(h:OwnR w base v ls)(hx:Ext w w'): OwnR w' base v ls:=by
 obtain ⟨ps,u,o,j⟩:=h;exact ⟨ps,u,Jjb o hx,λp i=>(j p i).ext hx⟩
theorem OwnR.rows{w:World}{base:Nat}{v:Value}{ls:List Row}(h:OwnR w base v ls)(hm:ls.length<=1100000): RowsV w v ls:=by
 obtain ⟨ps,rfl,i,u⟩:=h;obtain ⟨A,c,rfl,o,_⟩:=Jjd i;exact ⟨ps,A,c,rfl,rfl,o,by simpa using hm,Rd.own i,λp j=>(u p j).v⟩
theorem OwnR.lt{w:World}{base:Nat}{v:Value}{ls:List Row}(h:OwnR w base v ls): ∀ k,v.ownBlock=some k->base<=k/\k<w.heap.size:=by
 obtain ⟨ps,rfl,j,u⟩:=h;obtain ⟨A,c,rfl,o,i⟩:=Jjd j;exact i
theorem appR{P:Program}{n:Nat}{al:AL}{w:World}{Q:Exit->Act->World->Prop}{ops:Array Oper}{rest:List Oper}{d ty:Nat}{pos:String}{aft:Array Edge}{a:World}(hxa:Ext a w){x y:Operand}{v:Value}{ls:List Row}{b:Nat}{vr:Value}{r:Row}(hE:ElT P 35 40 1 24 (.slice none 0 0))(ho:OwnR w a.heap.size v ls)(hb:Blk w b 40 [vr])(hr:RowX w (own a.heap.size v) vr r)(hm:ls.length<=1100000)(kk:∀ v' w',OwnR w' a.heap.size v' (ls++[r])->Ext a w'->w.grownBy w' v.ownBlock->WL P n ops Q rest ((d,v')::al) w')(hx:ev al x=some v:=by rfl)(hy:ev al y=some (.slice (some ⟨b,0,none⟩) 1 1):=by rfl)(hd:Nat.blt d n=true:=by rfl):
  WL P n ops Q (⟨some d,.call { callee:=.builtin .append,args:=#[x,y],argTypes:=#[35,35] },ty,pos,aft,none⟩::rest) al w:=by
 obtain ⟨ps,rfl,h2,Z⟩:=ho;have j:vr.oneCell'=true:=hr.v.one;refine apo hxa hE h2 hb.one (λu U=>by rw [List.mem_singleton.1 U];exact j) (by unfold maxLen;simp at hm;omega) (by simp at hm;omega) ?_ hx hy hd;intro v' w' G C o J;have i:∀ (p:Pr),RowX w (own a.heap.size v) p.1 p.2->RowX w' (own a.heap.size v') p.1 p.2:=λp D=>by
  have h1:=D.mono (N':=λk=>own a.heap.size v k∨own a.heap.size v' k) (λk O h=>by
   rcases h with h|h|h
   ·exact h
   ·exact .inl h
   ·rcases J k h with h4|h4
    ·exact .inr h4
    ·omega)
  obtain ⟨A,c,e1,e2,e3,e4,e5⟩:=h1.grown o (λk O=>.inl (.inr O));exact ⟨A,c,e1,e2,e3,e4,λh0 ad e hn=>e5 h0 ad e (.inr hn)⟩
 refine kk v' w' ⟨ps++[(vr,r)],by simp,?_,λp D=>?_⟩ C o
 ·rw [List.length_append,List.map_append];exact G
 ·rcases List.mem_append.1 D with h'|h'
  ·exact i p (Z p h')
  ·rw [List.mem_singleton.1 h'];exact i (vr,r) hr
theorem half(i j:Nat)(h:i+j<=4400000): IntKind.i64.wrap ((IntKind.u64.wrap ((i:Int)+(j:Int))).fdiv (2^min (1:Int).toNat IntKind.u64.bits))=(((i+j) / 2:Nat):Int):=by
 have e:(2:Int)^min (1:Int).toNat IntKind.u64.bits=((2:Nat):Int):=by decide
 have o:IntKind.u64.wrap ((i:Int)+(j:Int))=((i+j:Nat):Int):=by rw [IntKind.wrap_u64];omega
 rw [e,o,Int.fdiv_eq_ediv_of_nonneg _ (by omega),IntKind.wrap_i64];omega
def TestF(w:World)(fv:Value)(n:Nat)(pr:Nat->Bool): Prop:=∃ fid first cap,fv=.func (.func fid) first cap /\
 ∀ w',Ext w w'->∀ i:Nat,i<n->Ret Tryz.prog fid (first.toList++[.int .i64 (i:Int)]++cap.toList) w' λr w''=>r=.bool (pr i)/\Ext w' w''
theorem sortSearch_any{w:World}{fv:Value}{n:Nat}{pr:Nat->Bool}(hT:TestF w fv n pr)(hn:n<=1100000):
  Ret Tryz.prog 112 [.int .i64 (n:Int),fv] w λv w'=>(∃ k:Nat,v=.int .i64 (k:Int)/\k<=n/\(k=0∨pr (k-1)=false)/\(k=n∨pr k=true))/\Ext w w':=by
 obtain ⟨G,first,J,rfl,hT⟩:=hT;refine Jjc Tryz.func112 Tryz.ntmps112 rfl (by kernel_rfl) rfl ?_;refine ρ ?_;refine Jqb (fun (i j:Nat)=>[(1,.func (.func G) first J),(5,.int .i64 (i:Int)),(6,.int .i64 (j:Int))])
  (λi j w'=>i<=j/\j<=n/\(i=0∨pr (i-1)=false)/\(j=n∨pr j=true)/\Ext w w') (λi j=>j-i) 0 n sB ⟨Nat.zero_le _,Nat.le_refl _,.inl rfl,.inl rfl,Ext.refl w⟩ ?_
 rintro i j w1 ⟨h1,Z,U,O,o⟩;refine ρ ?_;refine ci (λh=>?_) (λh=>?_)
 ·have C:i<j:=by have:=oT h;omega
  refine ρ ?_;refine Qcr rfl rfl (by decide) rfl ?_;refine ρ ?_;rw [half i j (by omega)];generalize hc:(i+j) / 2=k
  refine clv (hT _ o k (by omega)) ?_;rintro r w2 ⟨rfl,u⟩;refine ρ ?_;refine ci (λh=>?_) (λh=>?_)
  ·have D:pr k=false:=by simpa using h
   refine ρ ?_;exact Jjm (k+1) j sO ⟨by omega,Z,.inr (by rw [Nat.add_sub_cancel];exact D),O,o.trans u⟩ (by omega)
  ·have D:pr k=true:=by simpa using h
   refine ρ ?_;exact Jjm i k sO ⟨by omega,by omega,U,.inr D,o.trans u⟩ (by omega)
 ·have C:i=j:=by have:=oF h;omega
  subst C;refine ρ ?_;exact Jjr ⟨⟨i,rfl,Z,U,O⟩,o⟩
theorem searchTest_any{vs vr vd:Value}{ls:List Row}{r:Row}{ds:List Bool}{w:World}{b1 b2 b3:Nat}(hs:RowsV w vs ls)(hr:RowV w vr r)(hd:BoolsV w vd ds)(hk1:Blk w b1 35 [vs])(hk2:Blk w b2 40 [vr])(hk3:Blk w b3 22 [vd]){i:Nat}(hi:i<ls.length):
  Ret Tryz.prog 113 [.int .i64 (i:Int),.pointer (some ⟨b1,0,none⟩),.pointer (some ⟨b2,0,none⟩),.pointer (some ⟨b3,0,none⟩)] w λv w'=>v=.bool (decide (0<=Jxg (ls.getD i []) r ds))/\Ext w w':=by
 have j:Ext w w.drew:=(Ext.refl w).drew;obtain ⟨A,c,rfl,Z,U,cs,C,G⟩:=(hs.ext j).parts;obtain ⟨u,J,D⟩:=G i hi;refine Jjc Tryz.func113 Tryz.ntmps113 rfl (by kernel_rfl) rfl ?_;refine ρ ?_;refine dr [(0,0),(0,1),(0,2),(0,3),(0,4),(0,5),(1,6),(0,7),(0,8)] (by kernel_rfl) ?_;refine dld ((hk1.ext j).at (i:=0) rfl) ?_;refine ρd ?_;refine dix i C hi ?_;refine ρd ?_;refine dld (C.cell J) ?_;refine ρd ?_;refine dld ((hk2.ext j).at (i:=0) rfl) ?_;refine ρd ?_;refine dld ((hk3.ext j).at (i:=0) rfl) ?_;refine ρd ?_;refine dcl (Jsb D (hr.ext j) (hd.ext j)) ?_;rintro x O ⟨rfl,o⟩;refine ⟨o,?_⟩;refine ρd ?_;refine ρ ?_;exact Jjr ⟨rfl,j.trans o⟩
theorem rowSearch_any{vs vr vd:Value}{ls:List Row}{r:Row}{ds:List Bool}{w:World}(hs:RowsV w vs ls)(hr:RowV w vr r)(hd:BoolsV w vd ds)(hlt:Lt ds ls):
  Ret Tryz.prog 75 [vs,vr,vd] w λv w'=>v=.tuple #[.int .i64 (cnt ds ls r:Int),.bool (decide (r∈ls))]/\Ext w w':=by
 refine Jjc Tryz.func75 Tryz.ntmps75 rfl (by kernel_rfl) rfl ?_;obtain ⟨A,c,rfl,hc,hm,cs,a5,ac⟩:=hs.parts;obtain ⟨B,bc,rfl,_⟩:=id hr;obtain ⟨D,dc,rfl,_⟩:=id hd;refine ρ ?_;refine bx ?_;intro w1 b1 a6 af j;refine ρ ?_;refine bx ?_;intro w2 b2 a4 ae G;refine ρ ?_;refine bx ?_;intro w3 b3 a2 ad aa;have j:=(j.ext a4).ext a2;have G:=G.ext a2;have hx:=(a6.trans a4).trans a2;refine ρ ?_;refine ld (j.at (i:=0) rfl) ?_;refine ρ ?_;refine cl (sortSearch_any (n:=ls.length) (pr:=λi=>decide (0<=Jxg (ls.getD i []) r ds)) ⟨_,_,_,rfl,λw' C i hi=>searchTest_any (hs.ext (hx.trans C)) (hr.ext (hx.trans C)) (hd.ext (hx.trans C)) (j.ext C) (G.ext C) (aa.ext C) hi⟩ hm) ?_;rintro v w4 ⟨⟨k,rfl,a9,a8,ab⟩,a1⟩;obtain ⟨Z,U⟩:=rank_at hlt a9 (r:=r) (a8.imp id λh=>by have:=oF h;omega) (ab.imp id λh=>by have:=oT h;omega);have j:=j.ext a1;have G:=G.ext a1;refine ρ ?_;refine dr [(0,0),(0,1),(0,2),(0,3),(0,4),(0,5),(0,6),(0,7),(0,8),(0,9),(0,10),(1,11),(0,12),(0,13),(0,14)] (by kernel_rfl) ?_
 have O:Ext w4 w4.drew:=(Ext.refl w4).drew;have o:=(hx.trans a1).trans O;refine ρd ?_;refine dld ((j.ext O).at (i:=0) rfl) ?_;refine ρd ?_;refine dki 18 (λh=>?_) (λh=>?_)
 ·have J:k<ls.length:=by have:=oT h;omega
  obtain ⟨u,hu,a7⟩:=ac k J;refine ρd ?_;refine dld ((j.ext O).at (i:=0) rfl) ?_;refine ρd ?_;refine dix k (a5.ext o) J ?_;refine ρd ?_;refine dld ((a5.ext o).cell hu) ?_;refine ρd ?_;refine dld ((G.ext O).at (i:=0) rfl) ?_;refine ρd ?_;refine dcl (Jfv (a7.ext o) (hr.ext o)) ?_;rintro x w5 ⟨rfl,a3⟩;refine ⟨a3,?_⟩;refine ρd ?_;refine ρ ?_;refine Qwv ⟨?_,o.trans a3⟩;have e:decide (r∈ls)=decide (ls.getD k []=r):=by rw [Bool.eq_iff_iff,decide_eq_true_iff,decide_eq_true_iff,U];simp [J]
  rw [Z,e]
 ·have J:¬ k<ls.length:=by have:=oF h;omega
  refine ρd ?_;refine ρ ?_;refine Qwv ⟨?_,o⟩;have e:decide (r∈ls)=false:=by rw [decide_eq_false_iff_not,U];exact λh=>J h.1
  rw [Z,e]
open Go.RowKit Pl Go.Wk
theorem relSearch_any{w:World}{v vr:Value}{ar:Nat}{ls:List Row}{r:Row}(h:RelV w v ar ls)(hr:RowV w vr r)(hlt:Lt [] ls): Ret Tryz.prog 30 [v,vr] w λu w'=>u=.tuple #[.int .i64 (cnt [] ls r:Int),.bool (decide (r∈ls))]/\Ext w w':=by
 obtain ⟨O,rfl,j⟩:=h;obtain ⟨ps,A,c,_,rfl,_⟩:=id j;refine Jjc Tryz.func30 Tryz.ntmps30 rfl (by kernel_rfl) rfl ?_;refine ρ ?_;refine bx ?_;intro J b o U D;refine ρ ?_;refine ld (D.at (i:=1) rfl) ?_;refine ρ ?_;refine cl (rowSearch_any (j.ext o) (hr.ext o) (BoolsV.nil _ none 0) hlt) ?_;rintro u G ⟨rfl,C⟩;refine ρ ?_;exact Qwv ⟨rfl,o.trans C⟩
open Go.RowKit Pl Go.Wk
open Go.RowKit Pl Go.Wk
theorem RowV.ones{w:World}{ps:List Pr}(h:∀ p∈ps,RowV w p.1 p.2): ∀ u∈ps.map (·.1),u.oneCell'=true:=by
 intro u i;obtain ⟨p,j,rfl⟩:=List.mem_map.1 i;exact (h p j).one
theorem own_fresh{w w0:World}{e sz m:Nat}{v:Value}{xs:List Value}(h:w.ownsRow w0.heap.size e sz v m xs): Fresh w0 v:=λj n c e=>by
 rcases h.2 with ⟨i,_⟩|⟨g,cap,cur,i,hb,_⟩
 ·rw [i]at e;cases e
 ·rw [i]at e;injection e with e _ _;injection e with e;subst e;exact hb
theorem refPut_any{v vr vd:Value}{l:List Row}{r:Row}{ds:List Bool}{w:World}(hl:RowsV w v l)(hr:RowV w vr r)(hd:BoolsV w vd ds)(hlt:Lt ds l)(hlen:l.length<=1000000):
  Ret Tryz.prog 93 [v,vr,vd] w λx w'=>RowsV w' x (Xkv ds l r)/\Ext w w'/\(x=v∨Fresh w x):=by
 obtain ⟨ps,A,c,rfl,rfl,h3,h4,h5,h6⟩:=id hl;have hn:ps.length<=1000000:=by simpa using hlen
 obtain ⟨B,bc,ab,ak,aj,ai⟩:=id hr;refine Jjc Tryz.func93 Tryz.ntmps93 rfl (by kernel_rfl) rfl ?_;refine ρ ?_;refine Jqw (λk=>[(0,.slice A ps.length c),(1,vr),(2,vd),(7,.int .i64 ((k:Nat):Int))])
  (λk w'=>Ext w w'/\k<=ps.length/\∀ i,i<k->Jxg ((ps.map (·.2)).getD i []) r ds<0) (λk=>ps.length-k) 0 sB ⟨Ext.refl w,Nat.zero_le _,λi hi=>by omega⟩ ?_
 rintro k w1 ⟨C,hk,D⟩;refine ρ ?_;refine Jwr (fun (t:Bool)=>[(0,.slice A ps.length c),(1,vr),(2,vd),(7,.int .i64 ((k:Nat):Int)),(22,.bool t)])
  (λt w2=>Ext w1 w2/\t=decide (k<ps.length/\Jxg ((ps.map (·.2)).getD k []) r ds<0)) ?_ ?_
 ·refine ki 13 (λh=>?_) (λh=>?_)
  ·have hlt:k<ps.length:=by have:=oT h;omega
   refine ρ ?_;refine ix k (h5.ext C) hlt ?_;refine ρ ?_;refine ld ((h5.ext C).cell (Jtk hlt)) ?_;refine ρ ?_;refine cl (Qyn ((h6 _ (getD_mem' z0 ps hlt)).ext C) (hr.ext C) (hd.ext C)) ?_;rintro x w2 ⟨⟨cc,rfl,ag,ah⟩,a2⟩;refine ρ ?_;refine Jjn _ sB ⟨a2,?_⟩;rw [Bool.eq_iff_iff,decide_eq_true_iff,decide_eq_true_iff,ag,Qwm];exact ⟨λh=>⟨hlt,h⟩,λh=>h.2⟩
  ·have hlt:¬ k<ps.length:=by have:=oF h;omega
   refine ρ ?_;exact Jjn false sB ⟨Ext.refl _,(dF (λh=>hlt h.1)).symm⟩
 rintro t w2 ⟨a2,rfl⟩;have j:=C.trans a2;refine ρ ?_;refine ci (λh=>?_) (λh=>?_)
 ·obtain ⟨hlt,hc⟩:=oT h;refine ρ ?_;refine Jjx (k+1) sB ⟨j,by omega,λi hi=>?_⟩ (by omega);by_cases e:i=k
  ·rw [e];exact hc
  ·exact D i (by omega)
 have a3:=oF h;obtain ⟨a8,Z⟩:=rank_at hlt (r:=r) (k:=k) (by simpa using hk) (by
  by_cases h0:k=0
  ·exact .inl h0
  ·exact .inr (D (k-1) (by omega))) (by
  by_cases h0:k<ps.length
  ·exact .inr (λh'=>a3 ⟨h0,h'⟩)
  ·exact .inl (by simp;omega))
 refine ρ ?_;refine Jwr (fun (t:Bool)=>[(0,.slice A ps.length c),(1,vr),(7,.int .i64 ((k:Nat):Int)),(36,.bool t)])
  (λt w3=>Ext w2 w3/\t=decide (r∈ps.map (·.2))) ?_ ?_
 ·refine ki 29 (λh=>?_) (λh=>?_)
  ·have hlt:k<ps.length:=by have:=oT h;omega
   refine ρ ?_;refine ix k (h5.ext j) hlt ?_;refine ρ ?_;refine ld ((h5.ext j).cell (Jtk hlt)) ?_;refine ρ ?_;refine cl (Xxt ((h6 _ (getD_mem' z0 ps hlt)).ext j) (hr.ext j)) ?_;rintro x w3 ⟨rfl,a1⟩;refine ρ ?_;refine Jjn _ sB ⟨a1,?_⟩;rw [Bool.eq_iff_iff,decide_eq_true_iff,decide_eq_true_iff,Z,Qwm];exact ⟨λh=>⟨by simpa using hlt,h⟩,λh=>h.2⟩
  ·have hlt:¬ k<ps.length:=by have:=oF h;omega
   refine ρ ?_;refine Jjn false sB ⟨Ext.refl _,(dF (λh=>?_)).symm⟩;have:=(Z.1 h).1;simp at this;omega
 rintro t w3 ⟨a1,rfl⟩;have o:=j.trans a1;refine ρ ?_;refine ci (λh=>?_) (λh=>?_)
 ·have a4:=oT h;refine ρ ?_;refine Jjr ⟨?_,o,.inl rfl⟩;unfold Xkv;rw [if_pos a4];exact hl.ext o
 have a4:=oF h;have U:=RowV.ones h6;refine ρ ?_;refine bsl Xqt ?_;intro w4 b aa an ae;have O:=o.trans aa;refine ρ ?_;refine slh k ?_;refine ρ ?_;refine apo (a:=w) O ER (ae.own (n:=0) (by have:=o.size;omega) rfl (Nat.zero_le _)) ((h5.ext O).take (m:=k) hk) (λu hu=>U u (List.mem_of_mem_take hu)) (by unfold maxLen;omega) (by omega) ?_;intro v5 w5 a7 a9 _ _;rw [Nat.mul_one]at a7;refine ρ ?_;refine bsl (λw=>Xvq vr w B _ bc ab) ?_;intro w6 b6 a6 am ad;refine ρ ?_;refine apo (a:=w) (a9.trans a6) ER (Jjb a7 a6) ad.one (λu hu=>by rw [List.mem_singleton.1 hu];exact hr.one) (by unfold maxLen;omega) (by omega) ?_;intro v7 w7 ac a5 _ _;refine ρ ?_;refine sll k ?_;refine ρ ?_;refine apo (a:=w) a5 ER ac ((h5.ext a5).drop (k:=k) (c:=c) hk h3) (λu hu=>U u (List.mem_of_mem_drop hu)) (by unfold maxLen;omega) (by omega) ?_;intro v8 w8 J G _ _;rw [Nat.mul_one]at J;refine ρ ?_;refine Jjr ⟨?_,G,.inr (own_fresh J)⟩
 have e0:Xkv ds (ps.map (·.2)) r=(ps.take k++[(vr,r)]++ps.drop k).map (·.2):=by
  unfold Xkv;rw [if_neg a4,a8];simp
 have el:(ps.take k++[(vr,r)]++ps.drop k).length=0+k+1+(ps.length-k):=by simp;omega
 have ec:(ps.take k++[(vr,r)]++ps.drop k).map (·.1)=[]++(ps.map (·.1)).take k++[vr]++(ps.map (·.1)).drop k:=by simp
 rw [e0];obtain ⟨A8,c8,rfl,af,_⟩:=Jjd J;refine ⟨_,A8,c8,rfl,by rw [el],by rw [el];exact af,by rw [el];omega,by rw [el,ec];exact Rd.own J,λp D=>?_⟩;simp only [List.mem_append,List.mem_singleton]at D;rcases D with (D|D)|D
 ·exact (h6 p (List.mem_of_mem_take D)).ext G
 ·rw [D];exact hr.ext G
 ·exact (h6 p (List.mem_of_mem_drop D)).ext G
end Go.Proofs.YtefpailelagbkaaGreatDoor
namespace Go.Wk
open Go.RowKit
section
variable {P:Program} {n:Nat} {al:AL} {w:World} {Q:Exit->Act->World->Prop} {ops:Array Oper} {rest:List Oper} {d ty:Nat} {pos:String} {aft:Array Edge}
theorem sr32g{x y:Operand}{t yt:TypeId}{k2:IntKind}{s v:Nat}(hv:v<=32)(kk:WL P n ops Q rest ((d,.int .u32 ((s / 2^v:Nat):Int))::al) w)(hx:ev al x=some (.int .u32 (s:Int)):=by rfl)(hy:ev al y=some (.int k2 (v:Int)):=by rfl)(hd:Nat.blt d n=true:=by rfl):
  WL P n ops Q (⟨some d,.binOp .shr t x y yt,ty,pos,aft,none⟩::rest) al w:=by
 rw [<-Qff s v hv]at kk;exact wop hd (λa i=>Xjf hx hy (by omega) i (some d) w) kk
theorem sl32g{y:Operand}{t yt:TypeId}{k2:IntKind}{v:Nat}(hv:v<32)(kk:WL P n ops Q rest ((d,.int .u32 ((2^v:Nat):Int))::al) w)(hy:ev al y=some (.int k2 (v:Int)):=by rfl)(hd:Nat.blt d n=true:=by rfl):
  WL P n ops Q (⟨some d,.binOp .shl t (.const (.int .u32 1)) y yt,ty,pos,aft,none⟩::rest) al w:=by
 rw [<-Jhn hv]at kk;exact wop hd (λa i=>Jpx (x:=.const (.int .u32 1)) rfl hy (by omega) i (some d) w) kk
end
end Go.Wk
namespace Go.Proofs.YtefpailelagbkaaGreatDoor
open Go.RowKit Pl Go.Wk
attribute [local irreducible] WC WL QX WD WDB WP WN WG WH
theorem IntsV.n{w:World}{v:Value}{l:List Nat}(h:IntsV w v (nz l)): ∃ A c,v=.slice A l.length c/\l.length<=c/\l.length<=1100000/\Rd w 1 A l.length (Jkg (nz l)):=by
 obtain ⟨A,c,u,o,j,i⟩:=h;rw [Jqp]at u o j i;exact ⟨A,c,u,o,j,i⟩
theorem rHas_any{s v:Nat}(hs:s<4294967296)(hv:v<=32)(w:World): Ret Tryz.prog 183 [.int .u32 (s:Int),.int .i64 (v:Int)] w λu w'=>u=.bool (s.testBit v)/\w'=w:=by
 refine Jjc Tryz.func183 Tryz.ntmps183 rfl (by kernel_rfl) rfl ?_;refine ρ ?_;refine Go.Wk.kv 7 (congrArg (λz=>Value.int .u64 z) (Xxr (z:=(v:Int)) (by omega))) ?_;refine sr32g (s:=s) (v:=v) hv ?_;refine ρ ?_;rw [Jkh hs];exact Jjr ⟨rfl,rfl⟩
theorem rSet_any{l:List Nat}{v:Value}{w:World}(h:IntsV w v (nz l))(hl:∀ u∈l,u<32): Ret Tryz.prog 184 [v] w λu w'=>u=.int .u32 (Jxq l:Int)/\w'=w:=by
 obtain ⟨A,c,rfl,hc,Z,D⟩:=h.n;refine Jjc Tryz.func184 Tryz.ntmps184 rfl (by kernel_rfl) rfl ?_;refine ρ ?_;refine Jqw (fun (i:Nat)=>[(0,.slice A l.length c),(3,.int .u32 (Jxq (l.take i):Int)),(4,.int .i64 (i:Int))])
  (λi w'=>i<=l.length/\w'=w) (λi=>l.length-i) 0 sB ⟨Nat.zero_le _,rfl⟩ ?_
 rintro i U ⟨hi,rfl⟩;refine ρ ?_;refine ci (λh=>?_) (λh=>?_)
 ·have o:i<l.length:=by have:=oT h;omega
  clear h;have j:=hl _ (getD_mem' 0 l o);refine ρ ?_;refine ix i D o ?_;refine ρ ?_;refine ld (D.cell (Jzc o)) ?_;refine ρ ?_;refine Go.Wk.kv 16 (congrArg (λz=>Value.int .u64 z) (Xxr (z:=(l.getD i 0:Int)) (by omega))) ?_;refine sl32g (v:=l.getD i 0) j ?_;refine ρ ?_;have e:Jxq (l.take (i+1))=Jxq (l.take i) ||| 2^l.getD i 0:=by rw [Jjp 0 o];exact Qbz _ _ _
  have O:Jxq (l.take i)<4294967296:=Jmd (n:=32) λv G=>hl v (List.mem_of_mem_take G);have J:=Jfn O (Jvl j);rw [J,<-e];exact Jjx (i+1) sO ⟨o,rfl⟩ (by omega)
 ·have C:i=l.length:=by have:=oF h;omega
  subst C;clear h;refine ρ ?_;rw [List.take_length];exact Jjr ⟨rfl,rfl⟩
theorem rProject_any{vars:List Nat}{s:Nat}{r:Row}{rv vv:Value}{w:World}(hr:RowV w rv r)(hv:IntsV w vv (nz vars))(hs:s<4294967296)(hl:∀ u∈vars,u<32)(hrl:r.length=vars.length):
  Ret Tryz.prog 185 [rv,vv,.int .u32 (s:Int)] w λu w'=>RowV w' u (pmR (Jqx vars s) r)/\Ext w w':=by
 obtain ⟨A,c,rfl,hc,hm,hR⟩:=id hr;obtain ⟨B,d,rfl,hd,a9,hV⟩:=hv.n;refine Jjc Tryz.func185 Tryz.ntmps185 rfl (by kernel_rfl) rfl ?_;refine ρ ?_;refine bsl Qlh ?_;intro w0 b0 Z a6 a7;refine ρ ?_;refine Jqb (fun (k:Nat) (G:Value)=>[(0,.slice A r.length c),(1,.slice B vars.length d),(2,.int .u32 (s:Int)),(7,G),(8,.int .i64 (k:Int))])
  (λk G w'=>k<=vars.length/\Ext w w'/\Qzv w' w.heap.size G (pmR (Jyb vars s k) r)) (λk _=>vars.length-k) 0 (.slice (some ⟨b0,0,none⟩) 0 0) sB
  ⟨Nat.zero_le _,Z,a7.own (n:=0) a6 rfl (Nat.zero_le _)⟩ ?_
 rintro k G w1 ⟨hk,o,D⟩;refine ρ ?_;refine ci (λh=>?_) (λh=>?_)
 ·have lk:k<vars.length:=by have:=oT h;omega
  clear h;have O:RdR w1 A r:=Rd.ext hR o;have J:=hl _ (getD_mem' 0 vars lk);have a4:(Jyb vars s k).length<=k:=by
   have:=List.length_filter_le (λi=>s.testBit (vars.getD i 0)) (List.range k);rw [List.length_range]at this;exact this
  refine ρ ?_;refine ix k (hV.ext o) lk ?_;refine ρ ?_;refine ld ((hV.ext o).cell (Jzc lk)) ?_;refine ρ ?_;refine cl (rHas_any hs (Nat.le_of_lt J) w1) ?_;rintro _ U ⟨rfl,e1⟩;rw [e1];clear e1 U;refine ρ ?_;refine ci (λh=>?_) (λh=>?_)
  ·refine ρ ?_;refine ixq 3 k O (by omega) ?_;refine ρ ?_;refine lds (cs:=(r.getD k V0).cells) (λj u hu=>RdR.cell O (by omega) hu) ?_;refine ρ ?_;refine bsl (Xqs _) ?_;intro w2 b C hb hB;refine ρ ?_;refine apb (m':=1) (news:=(r.getD k V0).cells) EV (Jjb D C) (hB.rd (n:=1) rfl) (V.one _) (by rw [Jxb];unfold maxLen;omega) (by rw [Jxb];omega) (o.trans C).size ?_;intro v3 w3 a1 a3 a8;refine ρ ?_;refine Jjm (k+1) v3 sO ⟨lk,Jjk (o.trans C) a3 (Jyx (Jjb D C)),?_⟩ (by omega);have e:pmR (Jyb vars s (k+1)) r=pmR (Jyb vars s k) r++[r.getD k V0]:=by rw [Jkc,if_pos h];simp [pmR]
   rw [Qzv,e,List.length_append,rowC_app',rowC_one''];exact a1
  ·refine ρ ?_;refine Jjm (k+1) G sO ⟨lk,o,?_⟩ (by omega);rw [Jkc,if_neg (by rw [h];simp),List.append_nil];exact D
 ·have a2:k=vars.length:=by have:=oF h;omega
  rw [a2]at D;have a4:(Jyb vars s vars.length).length<=vars.length:=by
   have:=List.length_filter_le (λi=>s.testBit (vars.getD i 0)) (List.range vars.length);rw [List.length_range]at this;exact this
  obtain ⟨A3,c3,rfl,a5,_⟩:=Jjd D;refine ρ ?_;refine Jjr ⟨⟨A3,c3,rfl,a5,?_,Rd.own D⟩,o⟩;show (pmR (Jyb vars s vars.length) r).length<=_;rw [Jxb];omega
theorem rList_any{s:Nat}(hs:s<4294967296)(w:World): Ret Tryz.prog 160 [.int .u32 (s:Int)] w λu w'=>IntsV w' u (nz (bk s 32))/\Ext w w':=by
 refine Jjc Tryz.func160 Tryz.ntmps160 rfl (by kernel_rfl) rfl ?_;refine ρ ?_;refine Jqb (fun (k:Nat) (C:Value)=>[(0,.int .u32 (s:Int)),(3,C),(4,.int .i64 (k:Int))])
  (λk C w'=>k<=32/\Ext w w'/\Jnh w' w.heap.size C (bk s k)) (λk _=>32-k) 0 (.slice none 0 0) sB
  ⟨Nat.zero_le _,Ext.refl _,Jxm _ _ _ _⟩ ?_
 rintro k C w1 ⟨hk,j,o⟩;refine ρ ?_;refine ci (λh=>?_) (λh=>?_)
 ·have lk:k<32:=by have:=oT h;omega
  clear h;have U:=Jvz s k;refine ρ ?_;refine cl (rHas_any hs hk w1) ?_;rintro _ D ⟨rfl,e1⟩;rw [e1];clear e1 D;refine ρ ?_;refine ci (λh=>?_) (λh=>?_)
  ·refine ρ ?_;refine bsl (bs1Int'' _) ?_;intro w2 b i hb hB;refine ρ ?_;refine apI (Jjb o i) hB (by omega) (j.trans i).size ?_;intro v3 w3 G O a1;refine ρ ?_;refine Jjm (k+1) v3 sO ⟨lk,Jjk (j.trans i) O (Jyx (Jjb o i)),?_⟩ (by omega);rw [Jyp,if_pos h];exact G
  ·refine ρ ?_;refine Jjm (k+1) C sO ⟨lk,j,?_⟩ (by omega);rw [Jyp,if_neg (by rw [h];simp),List.append_nil];exact o
 ·have J:k=32:=by have:=oF h;omega
  rw [J]at o;have U:=Jvz s 32;obtain ⟨A3,c3,rfl,Z,_⟩:=Jjd o;refine ρ ?_;exact Jjr ⟨⟨A3,c3,by rw [Jqp],by rw [Jqp];exact Z,by rw [Jqp];omega,by rw [Jqp];exact Rd.own o⟩,j⟩
open Go.RowKit Pl Go.Wk
theorem RInM.ext{w w':World}{VA RA:Option Addr}{m:Nat}{vars:Nat->List Nat}{rs:Nat->List Row}(h:RInM w VA RA m vars rs)(hx:Ext w w'): RInM w' VA RA m vars rs:=by
 obtain ⟨cs,G,D⟩:=h.v;obtain ⟨ds,C,o⟩:=h.r;exact ⟨⟨cs,G.ext hx,λi hi=>by obtain ⟨u,e,j⟩:=D i hi;exact ⟨u,e,j.ext hx⟩⟩,⟨ds,C.ext hx,λi hi=>by obtain ⟨u,e,j⟩:=o i hi;exact ⟨u,e,j.ext hx⟩⟩⟩
def rinC(n f:Int)(pA:Option Addr)(pn pc:Nat)(VA:Option Addr)(vc:Nat)(RA:Option Addr)(rc m:Nat): List Value:=[.int .i64 n,.int .i64 f,.slice pA pn pc,.slice VA m vc,.slice RA m rc]
def fit1(vars:Nat->List Nat)(rs:Nat->List Row)(vl:List Nat)(r:Row)(i:Nat)(x:Row): Bool:=decide (pmR (Jqx (vars i) (Jxq vl &&& Jxq (vars i))) x=pmR (Jqx vl (Jxq vl &&& Jxq (vars i))) r)
section
variable {n f:Int} {pA VA RA:Option Addr} {pn pc vc rc N m:Nat} {vars:Nat->List Nat} {rs:Nat->List Row} {w:World}
theorem rFits_any(hP:RefP N m vars rs)(hM:RInM w VA RA m vars rs){vl:List Nat}{r:Row}{vv rv:Value}(hv:IntsV w vv (nz vl))(hr:RowV w rv r)(hvl:∀ u∈vl,u<32)(hrl:r.length=vl.length):
  Ret Tryz.prog 162 [.agg (rinC n f pA pn pc VA vc RA rc m).toArray,rv,vv] w λu w'=>u=.bool (fitB m vars rs vl r)/\Ext w w':=by
 have b4:=hP.m32;refine Jjc Tryz.func162 Tryz.ntmps162 rfl (by kernel_rfl) rfl ?_;refine ρ ?_;refine bx (cs:=rinC n f pA pn pc VA vc RA rc m) ?_;intro w1 b D hb hB;refine ρ ?_;refine cl (rSet_any (hv.ext D) hvl) ?_;rintro _ ak ⟨rfl,e1⟩;rw [e1];clear e1 ak;refine ρ ?_;refine Jqw (fun (i:Nat)=>[(1,rv),(2,vv),(3,.pointer (some ⟨b,0,none⟩)),(7,.int .u32 (Jxq vl:Int)),(8,.int .i64 (i:Int))])
  (λi w'=>i<=m/\Ext w1 w'/\(List.range i).all (λi=>(rs i).any (fit1 vars rs vl r i))=true) (λi=>m-i) 0 sB ⟨Nat.zero_le _,Ext.refl _,rfl⟩ ?_
 rintro i w2 ⟨hi,o,a3⟩;have aa:=hB.ext o;refine ρ ?_;refine ld (aa.at (i:=3) rfl) ?_;refine ρ ?_;refine ci (λh=>?_) (λh=>?_)
 ·have Z:i<m:=by have:=oT h;omega
  clear h;obtain ⟨b1,a1,ar⟩:=(hM.ext (D.trans o)).v;obtain ⟨b3,a6,au⟩:=(hM.ext (D.trans o)).r;obtain ⟨vi,ac,ag⟩:=ar i Z;obtain ⟨ri,ad,az⟩:=au i Z;have G:∀ u∈vars i,u<32:=λu hu=>by have:=hP.lt i Z u hu;have:=hP.n32;omega
  refine ρ ?_;refine ld (aa.at (i:=3) rfl) ?_;refine ρ ?_;refine ix i a1 Z ?_;refine ρ ?_;refine ld (a1.cell ac) ?_;refine ρ ?_;refine cl (rSet_any ag G) ?_;rintro _ aj ⟨rfl,e2⟩;rw [e2];clear e2 aj;have af:Jxq vl<4294967296:=Jmd (n:=32) hvl;have ax:Jxq (vars i)<4294967296:=Jmd (n:=32) G;refine ρ ?_;have a2:bits .and .u32 (Jxq vl:Int) (Jxq (vars i):Int)=((Jxq vl &&& Jxq (vars i):Nat):Int):=u32_and_nat _ _ af ax;have ae:Jxq vl &&& Jxq (vars i)<4294967296:=Nat.lt_of_le_of_lt Nat.and_le_left af;rw [a2];clear a2;refine cl (rProject_any (hr.ext (D.trans o)) (hv.ext (D.trans o)) ae hvl hrl) ?_;rintro wv w3 ⟨aq,ap⟩;refine ρ ?_;refine Jqb (fun (k:Nat) (U:Bool)=>[(1,rv),(2,vv),(3,.pointer (some ⟨b,0,none⟩)),(7,.int .u32 (Jxq vl:Int)),(8,.int .i64 (i:Int)),(9,.int .u32 ((Jxq vl &&& Jxq (vars i):Nat):Int)),(10,wv),(11,.bool U),(12,.int .i64 (k:Int))])
   (λk U w'=>k<=(rs i).length/\Ext w3 w'/\U=((rs i).take k).any (fit1 vars rs vl r i)) (λk _=>(rs i).length-k) 0 false sB ⟨Nat.zero_le _,Ext.refl _,rfl⟩ ?_
  rintro k U w4 ⟨hk,a5,O⟩;have j:=ap.trans a5;have a9:=aa.ext j;obtain ⟨TA,tc,rfl,b6,b5,b2,ah,ay⟩:=(az.ext j).parts;refine ρ ?_;refine ld (a9.at (i:=4) rfl) ?_;refine ρ ?_;refine ix i (a6.ext j) Z ?_;refine ρ ?_;refine ld ((a6.ext j).cell ad) ?_;refine ρ ?_;have next:(rs i).any (fit1 vars rs vl r i)=true->(List.range (i+1)).all (λi=>(rs i).any (fit1 vars rs vl r i))=true:=λh=>by
   rw [List.range_succ,List.all_append,a3];simp [h]
  refine ki 42 (λh=>?_) (λh=>?_)
  ·have lk:k<(rs i).length:=by have:=oT h;omega
   clear h;refine ρ ?_;refine ci (λh=>?_) (λh=>?_)
   ·have a8:U=false:=by cases U<;>first|rfl|cases h
    subst a8;obtain ⟨xv,an,ao⟩:=ay k lk;have am:=hP.len i Z _ (getD_mem' [] (rs i) lk);have C:Ext w4 w4.drew:=(Ext.refl w4).drew;have J:=j.trans C;refine ρ ?_;refine dr [(0,0),(0,1),(0,2),(0,3),(0,4),(0,5),(0,6),(0,7),(0,8),(0,9),(0,10),(0,11),(0,12),(0,13),(0,15),(1,14),(1,16),(0,17)] (by kernel_rfl) ?_;have ai:=(a6.ext J);refine ρd ?_;refine dld ((a9.ext C).at (i:=4) rfl) ?_;refine ρd ?_;refine dix i ai Z ?_;refine ρd ?_;refine dld (ai.cell ad) ?_;refine ρd ?_;refine dix k (ah.ext C) lk ?_;refine ρd ?_;refine dld ((ah.ext C).cell an) ?_;refine ρd ?_;refine dld ((a9.ext C).at (i:=3) rfl) ?_;refine ρd ?_;refine dix i (a1.ext J) Z ?_;refine ρd ?_;refine dld ((a1.ext J).cell ac) ?_;refine ρd ?_;refine dcl (rProject_any (ao.ext C) (ag.ext J) ae G am) ?_;rintro pv w5 ⟨av,a4⟩;refine ⟨a4,?_⟩;refine ρd ?_;refine dcl (Xxt av (aq.ext ((a5.trans C).trans a4))) ?_;rintro _ w6 ⟨rfl,ab⟩;refine ⟨ab,?_⟩
    refine ρd ?_;refine ρ ?_;refine Jjm (k+1) (fit1 vars rs vl r i ((rs i).getD k [])) sO ⟨lk,((a5.trans C).trans a4).trans ab,?_⟩ (by omega);rw [Jjp [] lk,List.any_append,<-O];simp
   ·have a7:U=true:=by cases U<;>first|rfl|cases h
    subst a7;refine ρ ?_;refine Jjx (i+1) sO ⟨Z,o.trans j,next ?_⟩ (by omega);rw [<-List.take_append_drop k (rs i),List.any_append,<-O];rfl
  ·have lk:k=(rs i).length:=by have:=oF h;omega
   clear h;rw [lk,List.take_length]at O;refine ρ ?_;refine ci (λh=>?_) (λh=>?_)
   ·have a8:U=false:=by cases U<;>first|rfl|cases h
    refine ρ ?_;refine Jjr ⟨?_,(D.trans o).trans j⟩;congr 1
    symm
    refine Bool.eq_false_iff.2 λhc=>?_;have:=List.all_eq_true.1 hc i (List.mem_range.2 Z);rw [a8]at O;exact Bool.false_ne_true (O.trans this)
   ·have a7:U=true:=by cases U<;>first|rfl|cases h
    refine ρ ?_;exact Jjx (i+1) sO ⟨Z,o.trans j,next (by rw [<-O];exact a7)⟩ (by omega)
 ·have aw:i=m:=by have:=oF h;omega
  subst aw;refine ρ ?_;exact Jjr ⟨congrArg Value.bool a3.symm,D.trans o⟩
end
end Go.Proofs.YtefpailelagbkaaGreatDoor
