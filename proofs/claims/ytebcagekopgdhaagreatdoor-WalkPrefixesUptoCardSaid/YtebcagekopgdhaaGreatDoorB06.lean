/- Part 6. -/
import Derived.Test.YtebcagekopgdhaaGreatDoorB05
import Derived.Laws.Cover3
import Derived.Lib.Bytealg
set_option linter.unusedVariables false
set_option maxRecDepth 100000
set_option maxHeartbeats 40000000
namespace Go.Wk
open Go.RowKit
section
variable {P:Program} {n:Nat} {al:AL} {w:World} {Q:Exit->Act->World->Prop} {ops:Array Oper} {rest:List Oper}
variable {d ty:Nat} {op:Op} {pos:String} {aft:Array Edge} {tt:TT}
theorem Iq[h:Tab P tt]{x:Operand}{t t2 e:Nat}{k:TK}{A:Option Addr}{m c:Nat}(kk:WL P n ops Q rest ((d,.bool A.isNone)::al) w)(ht:tk tt t=some k:=by rfl)(hk:k.desc=.slice e:=by rfl)(hx:ev al x=some (.slice A m c):=by rfl)(hd:Nat.blt d n=true:=by rfl): WL P n ops Q (⟨some d,.binOp .eql t x (.const (.slice none 0 0)) t2,ty,pos,aft,none⟩::rest) al w :=
 wop hd (λa u=>by
  have o:=(Kx h.ok ht hk rfl).1;have C:a.eval (.const (.slice none 0 0))=.slice none 0 0:=rfl;simp [execOp,u.ev hx,C,eqGuard,binOp,run_equal_slice_nil w t e A m c o]) kk
end
end Go.Wk
namespace Go.Proofs.YtebcagekopgdhaaGreatDoor
open Go.RowKit Pl Go.Wk
attribute [local irreducible] WC WL QX WD WDB
theorem EB: ElT Tryz.prog 24 4 1 1 (.bool false):=⟨Tryz.underlying24,info_parts kr,rfl,by decide⟩
theorem EI: ElT Tryz.prog 44 3 1 8 (.int .i64 0):=⟨Tryz.underlying44,info_parts kr,rfl,by decide⟩
theorem Qqf(w:World): (Instr.buildSlice 24 0 #[]).run Tryz.prog w=.ok (.slice (some ⟨w.heap.size,0,none⟩) 0 0) (w.alloc (.cells ([]:List Value).toArray 4)):=kr
theorem Qrs{A:Option Addr}{n c:Nat}{cs:List Value}{w:World}(hr:Rd w 1 A n cs)(h1:∀ u∈cs,u.oneCell'=true)(hb:n*1<=140737488355328):
  Ret Tryz.prog 118 [.slice A n c] w λv w'=>(∃ A' c',v=.slice A' n c'/\n<=c'/\Rd w' 1 A' n cs)/\Ext w w':=by
 refine Jz Tryz.func118 Tryz.ntmps118 rfl kr rfl ?_;refine ρ ?_;refine Iq ?_;refine ρ ?_;refine ci (λh=>?_) (λh=>?_)
 .have Z:A=none:=by simpa using h
  subst Z;have hn:n=0:=by
   rcases Nat.eq_zero_or_pos n with h0|h0
   .exact h0
   .obtain ⟨ad,h2,_⟩:=hr.isome h0 om;cases h2
  subst hn;refine ρ ?_;exact Jj ⟨⟨none,0,rfl,Nat.le_refl _,hr⟩,Ext.refl w⟩
 .refine ρ ?_;refine bsl Qqf ?_;intro w1 b C U O;refine ρ ?_;refine apo C EB (O.own (n:=0) U rfl (Nat.zero_le _)) (hr.ext C) h1 (by unfold maxLen;omega) om ?_;intro v2 w2 o J _ _;obtain ⟨A2,c2,rfl,G,_⟩:=Jv o;refine ρ ?_;rw [Nat.zero_add]at o G ⊢;exact Jj ⟨⟨A2,c2,rfl,G,Rd.own o⟩,J⟩
theorem Qmn{A:Option Addr}{n c:Nat}{cs:List Value}{w:World}(hr:Rd w 1 A n cs)(h1:∀ u∈cs,u.oneCell'=true)(hb:n*1<=140737488355328):
  Ret Tryz.prog 118 [.slice A n c] w λv w'=>(∃ A' c',v=.slice A' n c'/\n<=c'/\Rd w' 1 A' n cs/\∀ ad,A'=some ad->w.heap.size<=ad.block)/\Ext w w':=by
 refine Jz Tryz.func118 Tryz.ntmps118 rfl kr rfl ?_;refine ρ ?_;refine Iq ?_;refine ρ ?_;refine ci (λh=>?_) (λh=>?_)
 .have hA:A=none:=by simpa using h
  subst hA;have hn:n=0:=by
   rcases Nat.eq_zero_or_pos n with h0|h0
   .exact h0
   .obtain ⟨ad,h2,_⟩:=hr.isome h0 om;cases h2
  subst hn;refine ρ ?_;exact Jj ⟨⟨none,0,rfl,Nat.le_refl _,hr,λad e=>by cases e⟩,Ext.refl w⟩
 .refine ρ ?_;refine bsl Qqf ?_;intro w1 b C U O;refine ρ ?_;refine apo C EB (O.own (n:=0) U rfl (Nat.zero_le _)) (hr.ext C) h1 (by unfold maxLen;omega) om ?_;intro v2 w2 o J _ _;obtain ⟨A2,c2,rfl,G,Z⟩:=Jv o;refine ρ ?_;rw [Nat.zero_add]at o G ⊢;exact Jj ⟨⟨A2,c2,rfl,G,Rd.own o,λad e=>by subst e;exact (Z ad.block rfl).1⟩,J⟩
theorem Ir(w:World): (Instr.buildSlice 37 0 #[]).run Tryz.prog w=.ok (.slice (some ⟨w.heap.size,0,none⟩) 0 0) (w.alloc (.cells ([]:List Value).toArray 47)):=kr
theorem Qqd(w:World): (Instr.buildSlice 29 0 #[]).run Tryz.prog w=.ok (.slice (some ⟨w.heap.size,0,none⟩) 0 0) (w.alloc (.cells ([]:List Value).toArray 110)):=kr
theorem Qmm{A:Option Addr}{n c:Nat}{cs:List Value}{w:World}(hr:Rd w 1 A n cs)(h1:∀ u∈cs,u.oneCell'=true)(hb:n*4<=140737488355328):
  Ret Tryz.prog 89 [.slice A n c] w λv w'=>(∃ A' c',v=.slice A' n c'/\n<=c'/\Rd w' 1 A' n cs)/\Ext w w':=by
 refine Jz Tryz.func89 Tryz.ntmps89 rfl kr rfl ?_;refine ρ ?_;refine Iq ?_;refine ρ ?_;refine ci (λh=>?_) (λh=>?_)
 .have Z:A=none:=by simpa using h
  subst Z;have hn:n=0:=by
   rcases Nat.eq_zero_or_pos n with h0|h0
   .exact h0
   .obtain ⟨ad,h2,_⟩:=hr.isome h0 om;cases h2
  subst hn;refine ρ ?_;exact Jj ⟨⟨none,0,rfl,Nat.le_refl _,hr⟩,Ext.refl w⟩
 .refine ρ ?_;refine bsl Qqd ?_;intro w1 b C U O;refine ρ ?_;refine apo C EN (O.own (n:=0) U rfl (Nat.zero_le _)) (hr.ext C) h1 (by unfold maxLen;omega) om ?_;intro v2 w2 o J _ _;obtain ⟨A2,c2,rfl,G,_⟩:=Jv o;refine ρ ?_;rw [Nat.zero_add]at o G ⊢;exact Jj ⟨⟨A2,c2,rfl,G,Rd.own o⟩,J⟩
open Go.RowKit Pl Go.Wk
open Go.RowKit Pl Go.Wk
theorem Uj(z:Value)(n:Nat): (madeCells #[z] n).toList=List.replicate n z:=by
 unfold madeCells;apply List.ext_getElem
 .simp
 .intro i u o;simp [Nat.mod_one]
theorem Jgg(n:Nat): List.replicate n (Value.int .u32 0)=Nc (List.replicate n 0):=by simp [Nc]
theorem Jxl(l:List UInt32)(i:Nat)(c:UInt32): (Nc l).set i (.int .u32 (c.toNat:Int))=Nc (l.set i c):=by simp [Nc,List.map_set]
theorem Qrb{x c:Nat}(hx:x<4294967296)(hc:c<=1): IntKind.u64.wrap ((c:Int)+IntKind.u64.wrap (x:Int))=((c+x:Nat):Int):=by
 simp only [IntKind.wrap_u64];omega
theorem Jbj(n:Nat): (n:Int).fdiv (2^min (32:Int).toNat IntKind.u64.bits)=((n / 4294967296:Nat):Int):=by
 have e:(2:Int)^min (32:Int).toNat IntKind.u64.bits=((4294967296:Nat):Int):=by decide
 rw [e,Int.fdiv_eq_ediv_of_nonneg _ (Int.natCast_nonneg _)];omega
def AddInv(a b:List UInt32)(i c:Nat)(os:List UInt32): Prop:=os.length=i/\c<=1/\val os+4294967296^i*c=val (a.take i)+val (b.take i)
theorem Jjj{a:List UInt32}{i:Nat}: val (a.take (i+1))=val (a.take i)+4294967296^i*(a.getD i 0).toNat:=by
 rcases Nat.lt_or_ge i a.length with h|h
 .have o:a.take (i+1)=a.take i++[a.getD i 0]:=by
   rw [List.take_succ_eq_append_getElem h];simp [List.getD,List.getElem?_eq_getElem h]
  rw [o,Ks,List.length_take,Nat.min_eq_left om];simp [val]
 .rw [List.take_of_length_le om,List.take_of_length_le h];have:a.getD i 0=0:=by simp [List.getD,List.getElem?_eq_none h]
  rw [this];simp
theorem AddInv.step{a b:List UInt32}{i c:Nat}{os:List UInt32}(h:AddInv a b i c os){s:Nat}(hs:s=c+(a.getD i 0).toNat+(b.getD i 0).toNat): AddInv a b (i+1) (s / 4294967296) (os++[UInt32.ofNat s]):=by
 obtain ⟨o,J,G⟩:=h;have C:(a.getD i 0).toNat<4294967296:=(a.getD i 0).toNat_lt;have u:(b.getD i 0).toNat<4294967296:=(b.getD i 0).toNat_lt;refine ⟨by simp [o],om,?_⟩;rw [Ks,o,Jjj,Jjj];simp only [val,UInt32.toNat_ofNat'];have e:4294967296^(i+1)*(s / 4294967296)=4294967296^i*(4294967296*(s / 4294967296)):=by rw [Nat.pow_succ,Nat.mul_assoc]
 rw [e];have U:4294967296^i*(s % 2^32+4294967296*0)+4294967296^i*(4294967296*(s / 4294967296))=4294967296^i*s:=by
  rw [<-Nat.mul_add];congr 1;omega
 have O:4294967296^i*s=4294967296^i*c+4294967296^i*(a.getD i 0).toNat+4294967296^i*(b.getD i 0).toNat:=by
  rw [hs,Nat.mul_add,Nat.mul_add]
 omega
theorem Jbk(os:List UInt32)(r:Nat)(c:UInt32): (os++List.replicate (r+1) 0).set os.length c=(os++[c])++List.replicate r 0:=by
 rw [List.set_append_right _ _ (Nat.le_refl _)];simp [List.replicate_succ]
theorem Qpz{s y:Nat}(hs:s<9223372036854775808)(hy:y<4294967296): IntKind.u64.wrap ((s:Int)+IntKind.u64.wrap (y:Int))=((s+y:Nat):Int):=by
 simp only [IntKind.wrap_u64];omega
abbrev Xn(w:World)(base:Nat)(v:Value)(l:List UInt32): Prop:=w.ownsRow base 110 1 v l.length (Nc l)
def Fresh(w:World)(v:Value): Prop:=∀ ad n c,v=.slice (some ad) n c->w.heap.size<=ad.block
theorem NatV.grown{w w':World}{v:Value}{n:Nat}{g:Option Nat}(h:NatV w v n)(hg:w.grownBy w' g)(hf:∀ ad m c,v=.slice (some ad) m c->some ad.block≠g): NatV w' v n:=by
 obtain ⟨A,c,rfl,C,u,o⟩:=h;exact ⟨A,c,rfl,C,u,Rd.grown o hg (λad e=>Ne.symm (hf ad _ _ (by rw [e])))⟩
theorem Jqj{v u:Value}{n m:Nat}{w:World}(hv:NatV w v n)(hu:NatV w u m)(hln:(Jq n).length<=1000)(hlm:(Jq m).length<=1000): Ret Tryz.prog 14 [v,u] w λr w'=>NatV w' r (n+m)/\Fresh w r/\Ext w w':=by
 refine Jz Tryz.func14 Tryz.ntmps14 rfl kr rfl ?_;refine ρ ?_;refine cl (Ya hv) ?_;rintro v' w' ⟨⟨A,rfl,ha⟩,rfl⟩;refine ρ ?_;refine cl (Ya hu) ?_;rintro u' a3 ⟨⟨B,rfl,hb⟩,rfl⟩;refine ρ ?_;refine Xa (λs:(Option Addr×Nat)×(Option Addr×Nat)=>[(0,.slice s.1.1 (Jq s.1.2).length (Jq s.1.2).length),(1,.slice s.2.1 (Jq s.2.2).length (Jq s.2.2).length)])
  (λs w'=>w'=a3/\(Jq s.2.2).length<=(Jq s.1.2).length/\s.1.2+s.2.2=n+m/\Rd a3 1 s.1.1 (Jq s.1.2).length (Nc (Jq s.1.2))/\Rd a3 1 s.2.1 (Jq s.2.2).length (Nc (Jq s.2.2))/\(Jq s.1.2).length<=1000) ?_ ?_
 .refine ci (λh=>?_) (λh=>?_)
  .refine ρ ?_;exact Jb ((B,m),(A,n)) sB ⟨rfl,by have:=oT h;simp only;omega,Nat.add_comm _ _,hb,ha,hlm⟩
  .refine ρ ?_;exact Jb ((A,n),(B,m)) sB ⟨rfl,by have:=oF h;simp only;omega,rfl,ha,hb,hln⟩
 rintro ⟨⟨A,x⟩,⟨B,y⟩⟩ w' ⟨rfl,ak,a1,ha,hb,hl⟩;simp only at ak a1 ha hb hl;generalize hL:(Jq x).length=L at *
 refine ρ ?_;refine mkn EN (L+1) om (by unfold maxLen;omega) ?_;intro w1 O ag aa hO;have a9:Xn w1 w'.heap.size (.slice O (L+1) (L+1)) ([]++List.replicate (L+1) 0):=by
  have e:(madeCells (Value.int .u32 0).cells ((L+1)*1)).toList=Nc (List.replicate (L+1) 0):=by rw [Nat.mul_one,<-Jgg];exact Uj _ _
  rw [e]at aa;rw [Xn,List.nil_append,List.length_replicate];exact aa
 refine ρ ?_;refine Xr (fun (k c:Nat) (o:List UInt32)=>[(0,.slice A L L),(1,.slice B (Jq y).length (Jq y).length),(5,.slice O (L+1) (L+1)),(6,.int .u64 (c:Int)),(24,.int .i64 (L:Int)),(25,.int .i64 (k:Int))])
  (λk c o w2=>Ext w' w2/\k<=L/\AddInv (Jq x) (Jq y) k c o/\Xn w2 w'.heap.size (.slice O (L+1) (L+1)) (o++List.replicate (L+1-k) 0)) (λk _ _=>L-k) 0 0 [] sB
  ⟨ag,Nat.zero_le _,⟨rfl,om,rfl⟩,a9⟩ ?_
 rintro k c o w2 ⟨Z,hk,hI,a5⟩;have a8:=hI.1;have ap:=hI.2.1;have ac:=ha.ext Z;have ab:=hb.ext Z;refine ρ ?_;refine ci (λh=>?_) (λh=>?_)
 .have aj:k<L:=by have:=oT h;omega
  have ai:((Jq x).getD k 0).toNat<4294967296:=((Jq x).getD k 0).toNat_lt;have ah:((Jq y).getD k 0).toNat<4294967296:=((Jq y).getD k 0).toNat_lt;have C:(o++List.replicate (L+1-k) (0:UInt32)).length=L+1:=by simp;omega
  have store:∀ s:Nat,w2.cell? (adr O k)=(Nc (o++List.replicate (L+1-k) 0))[k]?/\w2.frozen? (adr O k)=false /\
    Xn (w2.setCell (adr O k) (.int .u32 ((UInt32.ofNat s).toNat:Int))) w'.heap.size (.slice O (L+1) (L+1)) ((o++[UInt32.ofNat s])++List.replicate (L+1-(k+1)) 0)/\Ext w' (w2.setCell (adr O k) (.int .u32 ((UInt32.ofNat s).toNat:Int))):=λs=>by
   have J:=a5;rw [Xn,C]at J;obtain ⟨s1,s2,U,s4,s5⟩:=Zd J (q:=k) om (.int .u32 ((UInt32.ofNat s).toNat:Int));refine ⟨s1,s2,?_,Z.setCell s4 _⟩;rw [Jxl,show L+1-k=(L-k)+1 by omega]at U;have e:=Jbk o (L-k) (UInt32.ofNat s);rw [a8]at e;rw [e]at U;rw [Xn,show L+1-(k+1)=L-k by omega];have e2:((o++[UInt32.ofNat s])++List.replicate (L-k) (0:UInt32)).length=L+1:=by simp;omega
   rw [e2];exact U
  have G:(Nc (o++List.replicate (L+1-k) 0))[k]?=some (.int .u32 (((o++List.replicate (L+1-k) 0).getD k 0).toNat:Int)):=Zy (by rw [C];omega);have a6:Rd w2 1 O (L+1) (Nc (o++List.replicate (L+1-k) 0)):=by have h5:=a5;rw [Xn,C]at h5;exact Rd.own h5
  refine ρ ?_;refine ix k ac aj ?_;refine ρ ?_;refine ld (ac.cell (Zy (show k<(Jq x).length by omega))) ?_;refine ρ ?_;rw [Qrb ai ap];refine ci (λh=>?_) (λh=>?_)
  .have a2:k<(Jq y).length:=by have:=oT h;omega
   refine ρ ?_;refine ix k ab a2 ?_;refine ρ ?_;refine ld (ab.cell (Zy a2)) ?_;refine ρ ?_;refine ix k a6 om ?_;obtain ⟨s1,s2,U,s4⟩:=store (c+((Jq x).getD k 0).toNat+((Jq y).getD k 0).toNat);rw [Qpz om ah,Yt];refine sto (s1.trans G) s2 ?_;refine ρ ?_;refine Yw rfl rfl (by decide) rfl ?_;refine ρ ?_;refine Qa (k+1) ((c+((Jq x).getD k 0).toNat+((Jq y).getD k 0).toNat) / 4294967296) (o++[UInt32.ofNat (c+((Jq x).getD k 0).toNat+((Jq y).getD k 0).toNat)]) ?_ ⟨s4,om,hI.step rfl,U⟩ om;rw [Jbj];exact sB
  .have ao:(Jq y).length<=k:=by have:=oF h;omega
   have ae:(Jq y).getD k 0=0:=by simp [List.getD,List.getElem?_eq_none ao]
   refine ρ ?_;refine ix k a6 om ?_;obtain ⟨s1,s2,U,s4⟩:=store (c+((Jq x).getD k 0).toNat);rw [Yt];refine sto (s1.trans G) s2 ?_;refine ρ ?_;refine Yw rfl rfl (by decide) rfl ?_;refine ρ ?_;refine Qa (k+1) ((c+((Jq x).getD k 0).toNat) / 4294967296) (o++[UInt32.ofNat (c+((Jq x).getD k 0).toNat)]) ?_ ⟨s4,om,hI.step (by rw [ae];rfl),U⟩ om;rw [Jbj];exact sB
 .have an:k=L:=by have:=oF h;omega
  subst an;have C:(o++List.replicate (k+1-k) (0:UInt32)).length=k+1:=by simp;omega
  have J:=a5;rw [Xn,C]at J;have G:(Nc (o++List.replicate (k+1-k) 0))[k]?=some (.int .u32 (((o++List.replicate (k+1-k) 0).getD k 0).toNat:Int)):=Zy (by rw [C];omega);obtain ⟨s1,s2,U,s4,s5⟩:=Zd J (q:=k) om (.int .u32 ((UInt32.ofNat c).toNat:Int));rw [Jxl,show k+1-k=0+1 by omega]at U;have e:=Jbk o 0 (UInt32.ofNat c);rw [a8,List.replicate_zero,List.append_nil]at e;rw [e]at U;have af:=Z.setCell s4 (.int .u32 ((UInt32.ofNat c).toNat:Int));refine ρ ?_;refine ix k (Rd.own J) om ?_;rw [Yt];refine sto (s1.trans G) s2 ?_;refine ρ ?_;have am:(o++[UInt32.ofNat c]).length=k+1:=by simp;omega
  have a4:=Rd.own U;have a7:val (o++[UInt32.ofNat c])=n+m:=by
   obtain ⟨i1,i2,i3⟩:=hI;rw [Ks,i1];simp only [val,UInt32.toNat_ofNat'];rw [<-a1,<-Zb x,<-Zb y,<-List.take_of_length_le (show (Jq x).length<=k by omega),<-List.take_of_length_le (show (Jq y).length<=k by omega),<-i3,show c % 2^32+4294967296*0=c by omega]
  rw [<-am]at a4 ⊢;refine cl (Kt a4 (Nat.le_refl _) om) ?_;rintro t w4 ⟨rfl,rfl⟩;have:=Jjl a4 om;rw [a7]at this ⊢;refine ρ ?_;exact Jj ⟨this,λad _ _ e=>hO ad (by injection e),af⟩
open Go.RowKit Pl Go.Wk
def dif(x c y:Nat): Nat:=(18446744073709551616+x-c-y) % 18446744073709551616
theorem Qww{x c:Nat}(hx:x<4294967296)(hc:c<=1): IntKind.u64.wrap (IntKind.u64.wrap (x:Int)-(c:Int))=(dif x c 0:Int):=by
 unfold dif;simp only [IntKind.wrap_u64];omega
theorem Qwv{x c y:Nat}(hx:x<4294967296)(hc:c<=1)(hy:y<4294967296): IntKind.u64.wrap ((dif x c 0:Int)-IntKind.u64.wrap (y:Int))=(dif x c y:Int):=by
 unfold dif;simp only [IntKind.wrap_u64];omega
theorem Jmg(n:Nat): (n:Int).fdiv (2^min (63:Int).toNat IntKind.u64.bits)=((n / 9223372036854775808:Nat):Int):=by
 have e:(2:Int)^min (63:Int).toNat IntKind.u64.bits=((9223372036854775808:Nat):Int):=by decide
 rw [e,Int.fdiv_eq_ediv_of_nonneg _ (Int.natCast_nonneg _)];omega
theorem Qlj{x c y:Nat}(hx:x<4294967296)(hc:c<=1)(hy:y<4294967296): dif x c y % 4294967296+y+c=x+4294967296*(dif x c y / 9223372036854775808)/\dif x c y / 9223372036854775808<=1:=by
 unfold dif;omega
def SubInv(a b:List UInt32)(i c:Nat)(os:List UInt32): Prop:=os.length=i/\c<=1/\val os+val (b.take i)=val (a.take i)+4294967296^i*c
theorem SubInv.step{a b:List UInt32}{i c:Nat}{os:List UInt32}(h:SubInv a b i c os){s:Nat}(hs:s=dif (a.getD i 0).toNat c (b.getD i 0).toNat):
  SubInv a b (i+1) (s / 9223372036854775808) (os++[UInt32.ofNat s]):=by
 obtain ⟨C,O,Z⟩:=h;have J:(a.getD i 0).toNat<4294967296:=(a.getD i 0).toNat_lt;have G:(b.getD i 0).toNat<4294967296:=(b.getD i 0).toNat_lt;obtain ⟨u,o⟩:=Qlj J O G;rw [<-hs]at u o;refine ⟨by simp [C],o,?_⟩;rw [Ks,C,Jjj,Jjj];simp only [val,UInt32.toNat_ofNat'];have e:4294967296^(i+1)*(s / 9223372036854775808)=4294967296^i*(4294967296*(s / 9223372036854775808)):=by rw [Nat.pow_succ,Nat.mul_assoc]
 have U:s % 2^32+4294967296*0=s % 4294967296:=om
 rw [e,U];have e3:4294967296^i*(s % 4294967296)+4294967296^i*(b.getD i 0).toNat+4294967296^i*c=4294967296^i*(a.getD i 0).toNat+4294967296^i*(4294967296*(s / 9223372036854775808)):=by
  rw [<-Nat.mul_add,<-Nat.mul_add,<-Nat.mul_add,u]
 omega
theorem Qdk{v u:Value}{n m:Nat}{w:World}(hv:NatV w v n)(hu:NatV w u m)(hln:(Jq n).length<=1000):
  Ret Tryz.prog 67 [v,u] w λr w'=>(∃ x,r=.tuple #[x,.int .i64 (if n<m then 19 else 0)]/\NatV w' x (n-m)/\Fresh w x)/\Ext w w':=by
 refine Jz Tryz.func67 Tryz.ntmps67 rfl kr rfl ?_;refine ρ ?_;refine cl (Ya hv) ?_;rintro v' w' ⟨⟨A,rfl,ha⟩,rfl⟩;refine ρ ?_;refine cl (Ya hu) ?_;rintro u' ar ⟨⟨B,rfl,hb⟩,rfl⟩;have am:(Jq m).length<=4611686018427387904:=by obtain ⟨_,_,_,_,h,_⟩:=hu;exact h
 refine ρ ?_;refine cl (Jqh (n:=n) (m:=m) ⟨A,_,rfl,Nat.le_refl _,om,ha⟩ ⟨B,_,rfl,Nat.le_refl _,am,hb⟩) ?_;rintro t w' ⟨rfl,C⟩;refine ρ ?_;refine ci (λh=>?_) (λh=>?_)
 .have a4:n<m:=by
   have:=oT h;unfold Yl at this;rcases Nat.lt_or_ge n m with h1|h1
   .exact h1
   .rw [if_neg om]at this;split at this<;>omega
  refine ρ ?_;refine Ve ⟨⟨.slice none 0 0,?_,?_,λad _ _ e=>by cases e⟩,C⟩
  .rw [if_pos a4]
  .rw [show n-m=0 by omega];exact NatV.nil _
 have ae:m<=n:=by
  have:=oF h;unfold Yl at this;rcases Nat.lt_or_ge n m with h1|h1
  .rw [if_pos h1]at this;omega
  .exact h1
 have au:(Jq m).length<=(Jq n).length:=by
  rcases Nat.lt_or_ge (Jq n).length (Jq m).length with h1|h1
  .have:=Jcw h1;omega
  .exact h1
 have ap:=ha.ext C;have ao:=hb.ext C;generalize hL:(Jq n).length=L at *
 refine ρ ?_;refine mkn EN L om (by unfold maxLen;omega) ?_;intro w1 O a6 ab hO;have aq:=C.trans a6;have aj:=C.size;have aa:Xn w1 w'.heap.size (.slice O L L) ([]++List.replicate L 0):=by
  have e:(madeCells (Value.int .u32 0).cells (L*1)).toList=Nc (List.replicate L 0):=by rw [Nat.mul_one,<-Jgg];exact Uj _ _
  rw [e]at ab;rw [Xn,List.nil_append,List.length_replicate];exact ab
 refine ρ ?_;refine Xr (fun (k c:Nat) (o:List UInt32)=>[(0,.slice A L L),(1,.slice B (Jq m).length (Jq m).length),(6,.slice O L L),(7,.int .u64 (c:Int)),(22,.int .i64 (L:Int)),(23,.int .i64 (k:Int))])
  (λk c o U=>Ext w' U/\k<=L/\SubInv (Jq n) (Jq m) k c o/\Xn U w'.heap.size (.slice O L L) (o++List.replicate (L-k) 0)) (λk _ _=>L-k) 0 0 [] sB
  ⟨a6,Nat.zero_le _,⟨rfl,om,rfl⟩,aa⟩ ?_
 rintro k c o U ⟨Z,hk,hI,a3⟩;have a1:=hI.1;have af:=hI.2.1;have ah:=ap.ext Z;have ag:=ao.ext Z;refine ρ ?_;refine ci (λh=>?_) (λh=>?_)
 .have a4:k<L:=by have:=oT h;omega
  have ac:((Jq n).getD k 0).toNat<4294967296:=((Jq n).getD k 0).toNat_lt;have ak:((Jq m).getD k 0).toNat<4294967296:=((Jq m).getD k 0).toNat_lt;have G:(o++List.replicate (L-k) (0:UInt32)).length=L:=by simp;omega
  have store:∀ s:Nat,U.cell? (adr O k)=(Nc (o++List.replicate (L-k) 0))[k]?/\U.frozen? (adr O k)=false /\
    Xn (U.setCell (adr O k) (.int .u32 ((UInt32.ofNat s).toNat:Int))) w'.heap.size (.slice O L L) ((o++[UInt32.ofNat s])++List.replicate (L-(k+1)) 0)/\Ext w' (U.setCell (adr O k) (.int .u32 ((UInt32.ofNat s).toNat:Int))):=λs=>by
   have a9:=a3;rw [Xn,G]at a9;obtain ⟨s1,s2,s3,s4,s5⟩:=Zd a9 (q:=k) om (.int .u32 ((UInt32.ofNat s).toNat:Int));refine ⟨s1,s2,?_,Z.setCell s4 _⟩;rw [Jxl,show L-k=(L-(k+1))+1 by omega]at s3;have e:=Jbk o (L-(k+1)) (UInt32.ofNat s);rw [a1]at e;rw [e]at s3;have e2:((o++[UInt32.ofNat s])++List.replicate (L-(k+1)) (0:UInt32)).length=L:=by simp;omega
   rw [Xn,e2];exact s3
  have J:(Nc (o++List.replicate (L-k) 0))[k]?=some (.int .u32 (((o++List.replicate (L-k) 0).getD k 0).toNat:Int)):=Zy (by rw [G];omega);have a5:Rd U 1 O L (Nc (o++List.replicate (L-k) 0)):=by have h5:=a3;rw [Xn,G]at h5;exact Rd.own h5
  refine ρ ?_;refine ix k ah a4 ?_;refine ρ ?_;refine ld (ah.cell (Zy (show k<(Jq n).length by omega))) ?_;refine ρ ?_;rw [Qww ac af];refine ci (λh=>?_) (λh=>?_)
  .have a2:k<(Jq m).length:=by have:=oT h;omega
   refine ρ ?_;refine ix k ag a2 ?_;refine ρ ?_;refine ld (ag.cell (Zy a2)) ?_;refine ρ ?_;refine ix k a5 om ?_;obtain ⟨s1,s2,s3,s4⟩:=store (dif ((Jq n).getD k 0).toNat c ((Jq m).getD k 0).toNat);rw [Qwv ac af ak,Yt];refine sto (s1.trans J) s2 ?_;refine ρ ?_;refine Yw rfl rfl (by decide) rfl ?_;refine ρ ?_;refine Qa (k+1) (dif ((Jq n).getD k 0).toNat c ((Jq m).getD k 0).toNat / 9223372036854775808) (o++[UInt32.ofNat (dif ((Jq n).getD k 0).toNat c ((Jq m).getD k 0).toNat)]) ?_ ⟨s4,om,hI.step rfl,s3⟩ om;rw [Jmg];exact sB
  .have ae:(Jq m).length<=k:=by have:=oF h;omega
   have ai:(Jq m).getD k 0=0:=by simp [List.getD,List.getElem?_eq_none ae]
   refine ρ ?_;refine ix k a5 om ?_;obtain ⟨s1,s2,s3,s4⟩:=store (dif ((Jq n).getD k 0).toNat c 0);rw [Yt];refine sto (s1.trans J) s2 ?_;refine ρ ?_;refine Yw rfl rfl (by decide) rfl ?_;refine ρ ?_;refine Qa (k+1) (dif ((Jq n).getD k 0).toNat c 0 / 9223372036854775808) (o++[UInt32.ofNat (dif ((Jq n).getD k 0).toNat c 0)]) ?_ ⟨s4,om,hI.step (by rw [ai];rfl),s3⟩ om;rw [Jmg];exact sB
 .have an:k=L:=by have:=oF h;omega
  subst an;have a8:Rd U 1 O o.length (Nc o):=by
   have:=Rd.own (show U.ownsRow w'.heap.size 110 1 (.slice O k k) k (Nc o) by
    have h5:=a3;rw [Xn,Nat.sub_self,List.replicate_zero,List.append_nil,a1]at h5;exact h5)
   rw [a1];exact this
  have a7:val o=n-m:=by
   obtain ⟨i1,i2,i3⟩:=hI;rw [List.take_of_length_le (show (Jq n).length<=k by omega),List.take_of_length_le (show (Jq m).length<=k by omega),Zb,Zb]at i3;have hv:=Jyt o;rw [i1]at hv;rcases Nat.eq_zero_or_pos c with h0|h0
   .subst h0;omega
   .have:c=1:=om
    subst this;omega
  refine ρ ?_;rw [<-a1];refine cl (Kt a8 (Nat.le_refl _) om) ?_;rintro t w4 ⟨rfl,rfl⟩;have:=Jjl a8 om;rw [a7]at this ⊢;refine ρ ?_;refine Ve ⟨⟨_,?_,this,λad _ _ e=>nL aj (hO ad (by injection e))⟩,C.trans Z⟩;rw [if_neg om]
end Go.Proofs.YtebcagekopgdhaaGreatDoor
namespace Go.Proofs.YtebcagekopgdhaaGreatDoor
namespace Pl
structure V where
 kind: Int
 num:Int
 str:ByteArray
def V.bytes(v:V): List UInt8:=v.str.data.toList
def V.cells(v:V): List Value:=[.int .i64 v.kind,.int .i64 v.num,.string v.str]
def V.val(v:V): Value:=.agg #[.int .i64 v.kind,.int .i64 v.num,.string v.str]
end Pl
open Go.RowKit Pl Go.Wk
attribute [local irreducible] WC WL QX WD WDB
def V0: V:=⟨0,0,⟨#[]⟩⟩
def Jl(r:List V): List Value:=r.flatMap V.cells
abbrev RdR(w:World)(A:Option Addr)(r:List V): Prop:=Rd w 3 A r.length (Jl r)
abbrev RdB(w:World)(A:Option Addr)(ds:List Bool): Prop:=Rd w 1 A ds.length (ds.map Value.bool)
theorem Jnd(r:List V): (Jl r).length=r.length*3:=by
 induction r with
 | nil=>rfl
 | cons v r ih=>simp only [Jl,List.flatMap_cons,List.length_append,V.cells,List.length_cons,List.length_nil]at ih ⊢;omega
theorem Jbz: ∀ (r:List V) (i j:Nat),i<r.length->j<3->(Jl r)[i*3+j]?=(r.getD i V0).cells[j]?
 | [],i,j,h,_=>by simp at h
 | v::r,0,j,_,hj=>by
  simp only [Jl,List.flatMap_cons,Nat.zero_mul,Nat.zero_add,List.getD_cons_zero];rw [List.getElem?_append_left (by simp [V.cells];omega)]
 | v::r,i+1,j,h,hj=>by
  have ih:=Jbz r i j (by simpa using h) hj;simp only [Jl,List.flatMap_cons,List.getD_cons_succ]at ih ⊢;rw [List.getElem?_append_right (by simp [V.cells];omega),<-ih];congr 1
  simp [V.cells];omega
theorem RdR.cell{w:World}{A:Option Addr}{r:List V}(h:RdR w A r){i j:Nat}{u:Value}(hi:i<r.length)(hu:(r.getD i V0).cells[j]?=some u): w.cell? ((adr A (i*3)).add j)=some u:=by
 have o:j<3:=by have:=(List.getElem?_eq_some_iff.1 hu).1;simpa [V.cells] using this
 rw [Xb];exact Rd.cell h (by rw [Jbz r i j hi o];exact hu)
theorem RdB.cell{w:World}{A:Option Addr}{ds:List Bool}(h:RdB w A ds){i:Nat}(hi:i<ds.length): w.cell? (adr A i)=some (.bool (ds.getD i false)) :=
 Rd.cell h (by simp [List.getElem?_eq_getElem hi])
theorem Qhd{r:List V}{i:Nat}(h:i<r.length): r.getD i V0∈r:=by simp [List.getD,List.getElem?_eq_getElem h]
theorem V.one(v:V): ∀ u∈v.cells,u.oneCell'=true:=by
 intro u o;simp [V.cells]at o;rcases o with rfl|rfl|rfl<;>rfl
theorem Jwg(r:List V): ∀ u∈Jl r,u.oneCell'=true:=by
 intro u C;obtain ⟨v,_,o⟩:=List.mem_flatMap.1 C;simp [V.cells]at o;rcases o with rfl|rfl|rfl<;>rfl
theorem Qyg(a b:List V): Jl (a++b)=Jl a++Jl b:=by simp [Jl]
def cmpV(a b:V): Int:=if a.kind≠b.kind then sgn a.kind b.kind else if a.num≠b.num then sgn a.num b.num else Lib.compareBytes a.bytes b.bytes
def neg(d:Bool)(c:Int): Int:=if d then -c else c
def Jw: List V->List V->List Bool->Int
 | [],[],_=>0
 | [],_::_,_=>-1
 | _::_,[],_=>1
 | x::a,y::b,ds=>if cmpV x y=0 then Jw a b (ds.drop 1) else neg (ds.getD 0 false) (cmpV x y)
theorem Qlr(a b:ByteArray)(w:World): Ret Tryz.prog 172 [.string a,.string b] w λv w'=>v=.int .i64 (Lib.compareBytes a.data.toList b.data.toList)/\w'=w:=by
 refine Jz Tryz.func172 Tryz.ntmps172 rfl kr rfl ?_;refine ρ ?_;refine wext (vs:=[.string a,.string b]) (v:=.int .i64 (Lib.compareBytes a.data.toList b.data.toList)) (w':=w) ?_ ?_
 .rw [run_callFunc_extern Tryz.func193 kr kr kr (e:=Extern.BytealgCompare.compare) kr,Lib.run_compareString];rfl
 refine ρ ?_;exact Jj ⟨rfl,rfl⟩
theorem Qwx(a b:ByteArray)(w:World): Ret Tryz.prog 149 [.string a,.string b] w λv w'=>v=.int .i64 (Lib.compareBytes a.data.toList b.data.toList)/\w'=w:=by
 refine Jz Tryz.func149 Tryz.ntmps149 rfl kr rfl ?_;refine ρ ?_;refine cl (Qlr a b w) ?_;rintro v w' ⟨rfl,rfl⟩;refine ρ ?_;exact Jj ⟨rfl,rfl⟩
theorem Jjh(a b:V)(w:World): Ret Tryz.prog 95 [a.val,b.val] w λr w'=>r=.int .i64 (cmpV a b)/\Ext w w':=by
 refine Jz Tryz.func95 Tryz.ntmps95 rfl kr rfl ?_;refine ρ ?_;refine bx ?_;intro w1 b1 J a1 o;refine ρ ?_;refine bx ?_;intro w2 b2 C Z u;have o:=o.ext C;have O:=J.trans C;refine ρ ?_;refine ld (o.at rfl) ?_;refine ρ ?_;refine ld (u.at rfl) ?_;refine ρ ?_;refine ci (λG=>?_) (λG=>?_)
 .refine ρ ?_;refine ld (o.at rfl) ?_;refine ρ ?_;refine ld (u.at rfl) ?_;refine ρ ?_;refine cl (Jtv _ _ _) ?_;rintro t U ⟨rfl,rfl⟩;refine ρ ?_;refine Jj ⟨?_,O⟩;rw [cmpV,if_pos (by simpa using G)]
 .refine ρ ?_;refine ld (o.at rfl) ?_;refine ρ ?_;refine ld (u.at rfl) ?_;refine ρ ?_;refine ci (λhn=>?_) (λhn=>?_)
  .refine ρ ?_;refine ld (o.at rfl) ?_;refine ρ ?_;refine ld (u.at rfl) ?_;refine ρ ?_;refine cl (Qlq _ _ _) ?_;rintro t U ⟨rfl,rfl⟩;refine ρ ?_;refine Jj ⟨?_,O⟩;rw [cmpV,if_neg (by simpa using G),if_pos (by simpa using hn)]
  .refine ρ ?_;refine ld (o.at rfl) ?_;refine ρ ?_;refine ld (u.at rfl) ?_;refine ρ ?_;refine cl (Qwx _ _ _) ?_;rintro t U ⟨rfl,rfl⟩;refine ρ ?_;refine Jj ⟨?_,O⟩;rw [cmpV,if_neg (by simpa using G),if_neg (by simpa using hn)];rfl
end Go.Proofs.YtebcagekopgdhaaGreatDoor
