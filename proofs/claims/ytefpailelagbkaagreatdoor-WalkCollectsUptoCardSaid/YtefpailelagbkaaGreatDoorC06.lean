/- Part 6 of the proof: Nat4. -/
import Derived.Test.YtefpailelagbkaaGreatDoorC05
import Derived.Laws.Cover3
import Derived.Lib.Bytealg
set_option linter.unusedVariables false
set_option maxRecDepth 100000
set_option maxHeartbeats 40000000
namespace Go.Wk
open Go.RowKit
section
variable {P:Program} {n:Nat} {al:AL} {w:World} {Q:Exit->Act->World->Prop} {ops:Array Oper} {rest:List Oper}
variable {d ty:Nat} {op:Op} {pos:String} {aft:Array Edge} {tt:TT}
theorem Xql[h:Tab P tt]{x:Operand}{t t2 e:Nat}{k:TK}{A:Option Addr}{m c:Nat}(kk:WL P n ops Q rest ((d,.bool A.isNone)::al) w)(ht:tk tt t=some k:=by rfl)(hk:k.desc=.slice e:=by rfl)(hx:ev al x=some (.slice A m c):=by rfl)(hd:Nat.blt d n=true:=by rfl): WL P n ops Q (⟨some d,.binOp .eql t x (.const (.slice none 0 0)) t2,ty,pos,aft,none⟩::rest) al w :=
 wop hd (λa j=>by
  have i:=(Jwv h.ok ht hk rfl).1;have o:a.eval (.const (.slice none 0 0))=.slice none 0 0:=rfl;simp [execOp,j.ev hx,o,eqGuard,binOp,run_equal_slice_nil w t e A m c i]) kk
end
end Go.Wk
namespace Go.Proofs.YtefpailelagbkaaGreatDoor
open Go.RowKit Pl Go.Wk
attribute [local irreducible] WC WL QX WD WDB
theorem EB: ElT Tryz.prog 22 4 1 1 (.bool false):=⟨Tryz.underlying22,info_parts kr,rfl,by decide⟩
theorem EI: ElT Tryz.prog 23 3 1 8 (.int .i64 0):=⟨Tryz.underlying23,info_parts kr,rfl,by decide⟩
theorem Qms(w:World): (Instr.buildSlice 22 0 #[]).run Tryz.prog w=.ok (.slice (some ⟨w.heap.size,0,none⟩) 0 0) (w.alloc (.cells ([]:List Value).toArray 4)):=kr
theorem Xyp{A:Option Addr}{n c:Nat}{cs:List Value}{w:World}(hr:Rd w 1 A n cs)(h1:∀ u∈cs,u.oneCell'=true)(hb:n*1<=140737488355328):
  Ret Tryz.prog 132 [.slice A n c] w λv w'=>(∃ A' c',v=.slice A' n c'/\n<=c'/\Rd w' 1 A' n cs)/\Ext w w':=by
 refine Jjc Tryz.func132 Tryz.ntmps132 rfl kr rfl ?_;refine ρ ?_;refine Xql ?_;refine ρ ?_;refine ci (λh=>?_) (λh=>?_)
 .have O:A=none:=by simpa using h
  subst O;have hn:n=0:=by
   rcases Nat.eq_zero_or_pos n with h0|h0
   .exact h0
   .obtain ⟨ad,U,_⟩:=hr.isome h0 om;cases U
  subst hn;refine ρ ?_;exact Jjq ⟨⟨none,0,rfl,Nat.le_refl _,hr⟩,Ext.refl w⟩
 .refine ρ ?_;refine bsl Qms ?_;intro w1 b j J G;refine ρ ?_;refine apo j EB (G.own (n:=0) J rfl (Nat.zero_le _)) (hr.ext j) h1 (by unfold maxLen;omega) om ?_;intro v2 w2 i C _ _;obtain ⟨A2,Z,rfl,o,_⟩:=Jjd i;refine ρ ?_;rw [Nat.zero_add]at i o ⊢;exact Jjq ⟨⟨A2,Z,rfl,o,Rd.own i⟩,C⟩
theorem Qdp{A:Option Addr}{n c:Nat}{cs:List Value}{w:World}(hr:Rd w 1 A n cs)(h1:∀ u∈cs,u.oneCell'=true)(hb:n*1<=140737488355328):
  Ret Tryz.prog 132 [.slice A n c] w λv w'=>(∃ A' c',v=.slice A' n c'/\n<=c'/\Rd w' 1 A' n cs/\∀ ad,A'=some ad->w.heap.size<=ad.block)/\Ext w w':=by
 refine Jjc Tryz.func132 Tryz.ntmps132 rfl kr rfl ?_;refine ρ ?_;refine Xql ?_;refine ρ ?_;refine ci (λh=>?_) (λh=>?_)
 .have U:A=none:=by simpa using h
  subst U;have hn:n=0:=by
   rcases Nat.eq_zero_or_pos n with h0|h0
   .exact h0
   .obtain ⟨ad,Z,_⟩:=hr.isome h0 om;cases Z
  subst hn;refine ρ ?_;exact Jjq ⟨⟨none,0,rfl,Nat.le_refl _,hr,λad e=>by cases e⟩,Ext.refl w⟩
 .refine ρ ?_;refine bsl Qms ?_;intro w1 b j J G;refine ρ ?_;refine apo j EB (G.own (n:=0) J rfl (Nat.zero_le _)) (hr.ext j) h1 (by unfold maxLen;omega) om ?_;intro v2 w2 i C _ _;obtain ⟨A2,c2,rfl,o,O⟩:=Jjd i;refine ρ ?_;rw [Nat.zero_add]at i o ⊢;exact Jjq ⟨⟨A2,c2,rfl,o,Rd.own i,λad e=>by subst e;exact (O ad.block rfl).1⟩,C⟩
theorem Jng(w:World): (Instr.buildSlice 40 0 #[]).run Tryz.prog w=.ok (.slice (some ⟨w.heap.size,0,none⟩) 0 0) (w.alloc (.cells ([]:List Value).toArray 71)):=kr
theorem Xjd(w:World): (Instr.buildSlice 32 0 #[]).run Tryz.prog w=.ok (.slice (some ⟨w.heap.size,0,none⟩) 0 0) (w.alloc (.cells ([]:List Value).toArray 117)):=kr
theorem Qsb{A:Option Addr}{n c:Nat}{cs:List Value}{w:World}(hr:Rd w 1 A n cs)(h1:∀ u∈cs,u.oneCell'=true)(hb:n*4<=140737488355328):
  Ret Tryz.prog 102 [.slice A n c] w λv w'=>(∃ A' c',v=.slice A' n c'/\n<=c'/\Rd w' 1 A' n cs)/\Ext w w':=by
 refine Jjc Tryz.func102 Tryz.ntmps102 rfl kr rfl ?_;refine ρ ?_;refine Xql ?_;refine ρ ?_;refine ci (λh=>?_) (λh=>?_)
 .have O:A=none:=by simpa using h
  subst O;have hn:n=0:=by
   rcases Nat.eq_zero_or_pos n with h0|h0
   .exact h0
   .obtain ⟨ad,U,_⟩:=hr.isome h0 om;cases U
  subst hn;refine ρ ?_;exact Jjq ⟨⟨none,0,rfl,Nat.le_refl _,hr⟩,Ext.refl w⟩
 .refine ρ ?_;refine bsl Xjd ?_;intro w1 b j J G;refine ρ ?_;refine apo j EN (G.own (n:=0) J rfl (Nat.zero_le _)) (hr.ext j) h1 (by unfold maxLen;omega) om ?_;intro v2 w2 i C _ _;obtain ⟨A2,Z,rfl,o,_⟩:=Jjd i;refine ρ ?_;rw [Nat.zero_add]at i o ⊢;exact Jjq ⟨⟨A2,Z,rfl,o,Rd.own i⟩,C⟩
open Go.RowKit Pl Go.Wk
open Go.RowKit Pl Go.Wk
theorem Jlx(z:Value)(n:Nat): (madeCells #[z] n).toList=List.replicate n z:=by
 unfold madeCells;apply List.ext_getElem
 .simp
 .intro i o j;simp [Nat.mod_one]
theorem Qwf(n:Nat): List.replicate n (Value.int .u32 0)=Nc (List.replicate n 0):=by simp [Nc]
theorem Jrk(l:List UInt32)(i:Nat)(c:UInt32): (Nc l).set i (.int .u32 (c.toNat:Int))=Nc (l.set i c):=by simp [Nc,List.map_set]
theorem Qng{x c:Nat}(hx:x<4294967296)(hc:c<=1): IntKind.u64.wrap ((c:Int)+IntKind.u64.wrap (x:Int))=((c+x:Nat):Int):=by
 simp only [IntKind.wrap_u64];omega
theorem Xqm(n:Nat): (n:Int).fdiv (2^min (32:Int).toNat IntKind.u64.bits)=((n / 4294967296:Nat):Int):=by
 have e:(2:Int)^min (32:Int).toNat IntKind.u64.bits=((4294967296:Nat):Int):=by decide
 rw [e,Int.fdiv_eq_ediv_of_nonneg _ (Int.natCast_nonneg _)];omega
def AddInv(a b:List UInt32)(i c:Nat)(os:List UInt32): Prop:=os.length=i/\c<=1/\val os+4294967296^i*c=val (a.take i)+val (b.take i)
theorem Jyw{a:List UInt32}{i:Nat}: val (a.take (i+1))=val (a.take i)+4294967296^i*(a.getD i 0).toNat:=by
 rcases Nat.lt_or_ge i a.length with h|h
 .have j:a.take (i+1)=a.take i++[a.getD i 0]:=by
   rw [List.take_succ_eq_append_getElem h];simp [List.getD,List.getElem?_eq_getElem h]
  rw [j,Jcj,List.length_take,Nat.min_eq_left om];simp [val]
 .rw [List.take_of_length_le om,List.take_of_length_le h];have:a.getD i 0=0:=by simp [List.getD,List.getElem?_eq_none h]
  rw [this];simp
theorem AddInv.step{a b:List UInt32}{i c:Nat}{os:List UInt32}(h:AddInv a b i c os){s:Nat}(hs:s=c+(a.getD i 0).toNat+(b.getD i 0).toNat): AddInv a b (i+1) (s / 4294967296) (os++[UInt32.ofNat s]):=by
 obtain ⟨j,G,C⟩:=h;have u:(a.getD i 0).toNat<4294967296:=(a.getD i 0).toNat_lt;have o:(b.getD i 0).toNat<4294967296:=(b.getD i 0).toNat_lt;refine ⟨by simp [j],om,?_⟩;rw [Jcj,j,Jyw,Jyw];simp only [val,UInt32.toNat_ofNat'];have e:4294967296^(i+1)*(s / 4294967296)=4294967296^i*(4294967296*(s / 4294967296)):=by rw [Nat.pow_succ,Nat.mul_assoc]
 rw [e];have O:4294967296^i*(s % 2^32+4294967296*0)+4294967296^i*(4294967296*(s / 4294967296))=4294967296^i*s:=by
  rw [<-Nat.mul_add];congr 1;omega
 have J:4294967296^i*s=4294967296^i*c+4294967296^i*(a.getD i 0).toNat+4294967296^i*(b.getD i 0).toNat:=by
  rw [hs,Nat.mul_add,Nat.mul_add]
 omega
theorem Qzg(os:List UInt32)(r:Nat)(c:UInt32): (os++List.replicate (r+1) 0).set os.length c=(os++[c])++List.replicate r 0:=by
 rw [List.set_append_right _ _ (Nat.le_refl _)];simp [List.replicate_succ]
theorem Xzv{s y:Nat}(hs:s<9223372036854775808)(hy:y<4294967296): IntKind.u64.wrap ((s:Int)+IntKind.u64.wrap (y:Int))=((s+y:Nat):Int):=by
 simp only [IntKind.wrap_u64];omega
abbrev Jhk(w:World)(base:Nat)(v:Value)(l:List UInt32): Prop:=w.ownsRow base 117 1 v l.length (Nc l)
def Fresh(w:World)(v:Value): Prop:=∀ ad n c,v=.slice (some ad) n c->w.heap.size<=ad.block
theorem NatV.grown{w w':World}{v:Value}{n:Nat}{g:Option Nat}(h:NatV w v n)(hg:w.grownBy w' g)(hf:∀ ad m c,v=.slice (some ad) m c->some ad.block≠g): NatV w' v n:=by
 obtain ⟨A,c,rfl,o,j,i⟩:=h;exact ⟨A,c,rfl,o,j,Rd.grown i hg (λad e=>Ne.symm (hf ad _ _ (by rw [e])))⟩
theorem Jkg{v u:Value}{n m:Nat}{w:World}(hv:NatV w v n)(hu:NatV w u m)(hln:(Jjf n).length<=1000)(hlm:(Jjf m).length<=1000): Ret Tryz.prog 35 [v,u] w λr w'=>NatV w' r (n+m)/\Fresh w r/\Ext w w':=by
 refine Jjc Tryz.func35 Tryz.ntmps35 rfl kr rfl ?_;refine ρ ?_;refine cl (Jhr hv) ?_;rintro v' w' ⟨⟨A,rfl,ha⟩,rfl⟩;refine ρ ?_;refine cl (Jhr hu) ?_;rintro u' a2 ⟨⟨B,rfl,hb⟩,rfl⟩;refine ρ ?_;refine Jzg (λs:(Option Addr×Nat)×(Option Addr×Nat)=>[(0,.slice s.1.1 (Jjf s.1.2).length (Jjf s.1.2).length),(1,.slice s.2.1 (Jjf s.2.2).length (Jjf s.2.2).length)])
  (λs w'=>w'=a2/\(Jjf s.2.2).length<=(Jjf s.1.2).length/\s.1.2+s.2.2=n+m/\Rd a2 1 s.1.1 (Jjf s.1.2).length (Nc (Jjf s.1.2))/\Rd a2 1 s.2.1 (Jjf s.2.2).length (Nc (Jjf s.2.2))/\(Jjf s.1.2).length<=1000) ?_ ?_
 .refine ci (λh=>?_) (λh=>?_)
  .refine ρ ?_;exact Jjn ((B,m),(A,n)) sB ⟨rfl,by have:=oT h;simp only;omega,Nat.add_comm _ _,hb,ha,hlm⟩
  .refine ρ ?_;exact Jjn ((A,n),(B,m)) sB ⟨rfl,by have:=oF h;simp only;omega,rfl,ha,hb,hln⟩
 rintro ⟨⟨A,x⟩,⟨B,y⟩⟩ w' ⟨rfl,aj,Z,ha,hb,hl⟩;simp only at aj Z ha hb hl;generalize hL:(Jjf x).length=L at *
 refine ρ ?_;refine mkn EN (L+1) om (by unfold maxLen;omega) ?_;intro w1 O af a9 hO;have a8:Jhk w1 w'.heap.size (.slice O (L+1) (L+1)) ([]++List.replicate (L+1) 0):=by
  have e:(madeCells (Value.int .u32 0).cells ((L+1)*1)).toList=Nc (List.replicate (L+1) 0):=by rw [Nat.mul_one,<-Qwf];exact Jlx _ _
  rw [e]at a9;rw [Jhk,List.nil_append,List.length_replicate];exact a9
 refine ρ ?_;refine Jzc (fun (k c:Nat) (i:List UInt32)=>[(0,.slice A L L),(1,.slice B (Jjf y).length (Jjf y).length),(5,.slice O (L+1) (L+1)),(6,.int .u64 (c:Int)),(24,.int .i64 (L:Int)),(25,.int .i64 (k:Int))])
  (λk c i U=>Ext w' U/\k<=L/\AddInv (Jjf x) (Jjf y) k c i/\Jhk U w'.heap.size (.slice O (L+1) (L+1)) (i++List.replicate (L+1-k) 0)) (λk _ _=>L-k) 0 0 [] sB
  ⟨af,Nat.zero_le _,⟨rfl,om,rfl⟩,a8⟩ ?_
 rintro k c i U ⟨J,hk,hI,a4⟩;have a7:=hI.1;have ao:=hI.2.1;have ab:=ha.ext J;have aa:=hb.ext J;refine ρ ?_;refine ci (λh=>?_) (λh=>?_)
 .have ai:k<L:=by have:=oT h;omega
  have ah:((Jjf x).getD k 0).toNat<4294967296:=((Jjf x).getD k 0).toNat_lt;have ag:((Jjf y).getD k 0).toNat<4294967296:=((Jjf y).getD k 0).toNat_lt;have j:(i++List.replicate (L+1-k) (0:UInt32)).length=L+1:=by simp;omega
  have store:∀ s:Nat,U.cell? (adr O k)=(Nc (i++List.replicate (L+1-k) 0))[k]?/\U.frozen? (adr O k)=false /\
    Jhk (U.setCell (adr O k) (.int .u32 ((UInt32.ofNat s).toNat:Int))) w'.heap.size (.slice O (L+1) (L+1)) ((i++[UInt32.ofNat s])++List.replicate (L+1-(k+1)) 0)/\Ext w' (U.setCell (adr O k) (.int .u32 ((UInt32.ofNat s).toNat:Int))):=λs=>by
   have C:=a4;rw [Jhk,j]at C;obtain ⟨s1,s2,G,s4,s5⟩:=Jqm C (q:=k) om (.int .u32 ((UInt32.ofNat s).toNat:Int));refine ⟨s1,s2,?_,J.setCell s4 _⟩;rw [Jrk,show L+1-k=(L-k)+1 by omega]at G;have e:=Qzg i (L-k) (UInt32.ofNat s);rw [a7]at e;rw [e]at G;rw [Jhk,show L+1-(k+1)=L-k by omega];have e2:((i++[UInt32.ofNat s])++List.replicate (L-k) (0:UInt32)).length=L+1:=by simp;omega
   rw [e2];exact G
  have o:(Nc (i++List.replicate (L+1-k) 0))[k]?=some (.int .u32 (((i++List.replicate (L+1-k) 0).getD k 0).toNat:Int)):=Jzm (by rw [j];omega);have a5:Rd U 1 O (L+1) (Nc (i++List.replicate (L+1-k) 0)):=by have h5:=a4;rw [Jhk,j]at h5;exact Rd.own h5
  refine ρ ?_;refine ix k ab ai ?_;refine ρ ?_;refine ld (ab.cell (Jzm (show k<(Jjf x).length by omega))) ?_;refine ρ ?_;rw [Qng ah ao];refine ci (λh=>?_) (λh=>?_)
  .have a1:k<(Jjf y).length:=by have:=oT h;omega
   refine ρ ?_;refine ix k aa a1 ?_;refine ρ ?_;refine ld (aa.cell (Jzm a1)) ?_;refine ρ ?_;refine ix k a5 om ?_;obtain ⟨s1,s2,G,s4⟩:=store (c+((Jjf x).getD k 0).toNat+((Jjf y).getD k 0).toNat);rw [Xzv om ag,Jhp];refine sto (s1.trans o) s2 ?_;refine ρ ?_;refine Qdw rfl rfl (by decide) rfl ?_;refine ρ ?_;refine Jqf (k+1) ((c+((Jjf x).getD k 0).toNat+((Jjf y).getD k 0).toNat) / 4294967296) (i++[UInt32.ofNat (c+((Jjf x).getD k 0).toNat+((Jjf y).getD k 0).toNat)]) ?_ ⟨s4,om,hI.step rfl,G⟩ om;rw [Xqm];exact sB
  .have an:(Jjf y).length<=k:=by have:=oF h;omega
   have ac:(Jjf y).getD k 0=0:=by simp [List.getD,List.getElem?_eq_none an]
   refine ρ ?_;refine ix k a5 om ?_;obtain ⟨s1,s2,G,s4⟩:=store (c+((Jjf x).getD k 0).toNat);rw [Jhp];refine sto (s1.trans o) s2 ?_;refine ρ ?_;refine Qdw rfl rfl (by decide) rfl ?_;refine ρ ?_;refine Jqf (k+1) ((c+((Jjf x).getD k 0).toNat) / 4294967296) (i++[UInt32.ofNat (c+((Jjf x).getD k 0).toNat)]) ?_ ⟨s4,om,hI.step (by rw [ac];rfl),G⟩ om;rw [Xqm];exact sB
 .have am:k=L:=by have:=oF h;omega
  subst am;have j:(i++List.replicate (k+1-k) (0:UInt32)).length=k+1:=by simp;omega
  have C:=a4;rw [Jhk,j]at C;have o:(Nc (i++List.replicate (k+1-k) 0))[k]?=some (.int .u32 (((i++List.replicate (k+1-k) 0).getD k 0).toNat:Int)):=Jzm (by rw [j];omega);obtain ⟨s1,s2,G,s4,s5⟩:=Jqm C (q:=k) om (.int .u32 ((UInt32.ofNat c).toNat:Int));rw [Jrk,show k+1-k=0+1 by omega]at G;have e:=Qzg i 0 (UInt32.ofNat c);rw [a7,List.replicate_zero,List.append_nil]at e;rw [e]at G;have ae:=J.setCell s4 (.int .u32 ((UInt32.ofNat c).toNat:Int));refine ρ ?_;refine ix k (Rd.own C) om ?_;rw [Jhp];refine sto (s1.trans o) s2 ?_;refine ρ ?_;have ak:(i++[UInt32.ofNat c]).length=k+1:=by simp;omega
  have a3:=Rd.own G;have a6:val (i++[UInt32.ofNat c])=n+m:=by
   obtain ⟨i1,i2,i3⟩:=hI;rw [Jcj,i1];simp only [val,UInt32.toNat_ofNat'];rw [<-Z,<-Jql x,<-Jql y,<-List.take_of_length_le (show (Jjf x).length<=k by omega),<-List.take_of_length_le (show (Jjf y).length<=k by omega),<-i3,show c % 2^32+4294967296*0=c by omega]
  rw [<-ak]at a3 ⊢;refine cl (Jvs a3 (Nat.le_refl _) om) ?_;rintro t w4 ⟨rfl,rfl⟩;have:=Jfc a3 om;rw [a6]at this ⊢;refine ρ ?_;exact Jjq ⟨this,λad _ _ e=>hO ad (by injection e),ae⟩
open Go.RowKit Pl Go.Wk
def dif(x c y:Nat): Nat:=(18446744073709551616+x-c-y) % 18446744073709551616
theorem Xwn{x c:Nat}(hx:x<4294967296)(hc:c<=1): IntKind.u64.wrap (IntKind.u64.wrap (x:Int)-(c:Int))=(dif x c 0:Int):=by
 unfold dif;simp only [IntKind.wrap_u64];omega
theorem Xwm{x c y:Nat}(hx:x<4294967296)(hc:c<=1)(hy:y<4294967296): IntKind.u64.wrap ((dif x c 0:Int)-IntKind.u64.wrap (y:Int))=(dif x c y:Int):=by
 unfold dif;simp only [IntKind.wrap_u64];omega
theorem Xws(n:Nat): (n:Int).fdiv (2^min (63:Int).toNat IntKind.u64.bits)=((n / 9223372036854775808:Nat):Int):=by
 have e:(2:Int)^min (63:Int).toNat IntKind.u64.bits=((9223372036854775808:Nat):Int):=by decide
 rw [e,Int.fdiv_eq_ediv_of_nonneg _ (Int.natCast_nonneg _)];omega
theorem Xyj{x c y:Nat}(hx:x<4294967296)(hc:c<=1)(hy:y<4294967296): dif x c y % 4294967296+y+c=x+4294967296*(dif x c y / 9223372036854775808)/\dif x c y / 9223372036854775808<=1:=by
 unfold dif;omega
def SubInv(a b:List UInt32)(i c:Nat)(os:List UInt32): Prop:=os.length=i/\c<=1/\val os+val (b.take i)=val (a.take i)+4294967296^i*c
theorem SubInv.step{a b:List UInt32}{i c:Nat}{os:List UInt32}(h:SubInv a b i c os){s:Nat}(hs:s=dif (a.getD i 0).toNat c (b.getD i 0).toNat):
  SubInv a b (i+1) (s / 9223372036854775808) (os++[UInt32.ofNat s]):=by
 obtain ⟨u,J,U⟩:=h;have G:(a.getD i 0).toNat<4294967296:=(a.getD i 0).toNat_lt;have C:(b.getD i 0).toNat<4294967296:=(b.getD i 0).toNat_lt;obtain ⟨o,j⟩:=Xyj G J C;rw [<-hs]at o j;refine ⟨by simp [u],j,?_⟩;rw [Jcj,u,Jyw,Jyw];simp only [val,UInt32.toNat_ofNat'];have e:4294967296^(i+1)*(s / 9223372036854775808)=4294967296^i*(4294967296*(s / 9223372036854775808)):=by rw [Nat.pow_succ,Nat.mul_assoc]
 have O:s % 2^32+4294967296*0=s % 4294967296:=om
 rw [e,O];have Z:4294967296^i*(s % 4294967296)+4294967296^i*(b.getD i 0).toNat+4294967296^i*c=4294967296^i*(a.getD i 0).toNat+4294967296^i*(4294967296*(s / 9223372036854775808)):=by
  rw [<-Nat.mul_add,<-Nat.mul_add,<-Nat.mul_add,o]
 omega
theorem Qzt{v u:Value}{n m:Nat}{w:World}(hv:NatV w v n)(hu:NatV w u m)(hln:(Jjf n).length<=1000):
  Ret Tryz.prog 59 [v,u] w λr w'=>(∃ x,r=.tuple #[x,.int .i64 (if n<m then 19 else 0)]/\NatV w' x (n-m)/\Fresh w x)/\Ext w w':=by
 refine Jjc Tryz.func59 Tryz.ntmps59 rfl kr rfl ?_;refine ρ ?_;refine cl (Jhr hv) ?_;rintro v' w' ⟨⟨A,rfl,ha⟩,rfl⟩;refine ρ ?_;refine cl (Jhr hu) ?_;rintro u' ap ⟨⟨B,rfl,hb⟩,rfl⟩;have aj:(Jjf m).length<=4611686018427387904:=by obtain ⟨_,_,_,_,h,_⟩:=hu;exact h
 refine ρ ?_;refine cl (Jwh (n:=n) (m:=m) ⟨A,_,rfl,Nat.le_refl _,om,ha⟩ ⟨B,_,rfl,Nat.le_refl _,aj,hb⟩) ?_;rintro t w' ⟨rfl,j⟩;refine ρ ?_;refine ci (λh=>?_) (λh=>?_)
 .have a2:n<m:=by
   have:=oT h;unfold Qfc at this;rcases Nat.lt_or_ge n m with h1|h1
   .exact h1
   .rw [if_neg om]at this;split at this<;>omega
  refine ρ ?_;refine Qyg ⟨⟨.slice none 0 0,?_,?_,λad _ _ e=>by cases e⟩,j⟩
  .rw [if_pos a2]
  .rw [show n-m=0 by omega];exact NatV.nil _
 have ab:m<=n:=by
  have:=oF h;unfold Qfc at this;rcases Nat.lt_or_ge n m with h1|h1
  .rw [if_pos h1]at this;omega
  .exact h1
 have aq:(Jjf m).length<=(Jjf n).length:=by
  rcases Nat.lt_or_ge (Jjf n).length (Jjf m).length with h1|h1
  .have:=Jmd h1;omega
  .exact h1
 have an:=ha.ext j;have am:=hb.ext j;generalize hL:(Jjf n).length=L at *
 refine ρ ?_;refine mkn EN L om (by unfold maxLen;omega) ?_;intro w1 O a4 a9 hO;have ao:=j.trans a4;have ah:=j.size;have a8:Jhk w1 w'.heap.size (.slice O L L) ([]++List.replicate L 0):=by
  have e:(madeCells (Value.int .u32 0).cells (L*1)).toList=Nc (List.replicate L 0):=by rw [Nat.mul_one,<-Qwf];exact Jlx _ _
  rw [e]at a9;rw [Jhk,List.nil_append,List.length_replicate];exact a9
 refine ρ ?_;refine Jzc (fun (k c:Nat) (i:List UInt32)=>[(0,.slice A L L),(1,.slice B (Jjf m).length (Jjf m).length),(6,.slice O L L),(7,.int .u64 (c:Int)),(22,.int .i64 (L:Int)),(23,.int .i64 (k:Int))])
  (λk c i G=>Ext w' G/\k<=L/\SubInv (Jjf n) (Jjf m) k c i/\Jhk G w'.heap.size (.slice O L L) (i++List.replicate (L-k) 0)) (λk _ _=>L-k) 0 0 [] sB
  ⟨a4,Nat.zero_le _,⟨rfl,om,rfl⟩,a8⟩ ?_
 rintro k c i G ⟨J,hk,hI,a1⟩;have U:=hI.1;have ac:=hI.2.1;have af:=an.ext J;have ae:=am.ext J;refine ρ ?_;refine ci (λh=>?_) (λh=>?_)
 .have a2:k<L:=by have:=oT h;omega
  have aa:((Jjf n).getD k 0).toNat<4294967296:=((Jjf n).getD k 0).toNat_lt;have ai:((Jjf m).getD k 0).toNat<4294967296:=((Jjf m).getD k 0).toNat_lt;have o:(i++List.replicate (L-k) (0:UInt32)).length=L:=by simp;omega
  have store:∀ s:Nat,G.cell? (adr O k)=(Nc (i++List.replicate (L-k) 0))[k]?/\G.frozen? (adr O k)=false /\
    Jhk (G.setCell (adr O k) (.int .u32 ((UInt32.ofNat s).toNat:Int))) w'.heap.size (.slice O L L) ((i++[UInt32.ofNat s])++List.replicate (L-(k+1)) 0)/\Ext w' (G.setCell (adr O k) (.int .u32 ((UInt32.ofNat s).toNat:Int))):=λs=>by
   have a7:=a1;rw [Jhk,o]at a7;obtain ⟨s1,s2,s3,s4,s5⟩:=Jqm a7 (q:=k) om (.int .u32 ((UInt32.ofNat s).toNat:Int));refine ⟨s1,s2,?_,J.setCell s4 _⟩;rw [Jrk,show L-k=(L-(k+1))+1 by omega]at s3;have e:=Qzg i (L-(k+1)) (UInt32.ofNat s);rw [U]at e;rw [e]at s3;have e2:((i++[UInt32.ofNat s])++List.replicate (L-(k+1)) (0:UInt32)).length=L:=by simp;omega
   rw [Jhk,e2];exact s3
  have C:(Nc (i++List.replicate (L-k) 0))[k]?=some (.int .u32 (((i++List.replicate (L-k) 0).getD k 0).toNat:Int)):=Jzm (by rw [o];omega);have a3:Rd G 1 O L (Nc (i++List.replicate (L-k) 0)):=by have h5:=a1;rw [Jhk,o]at h5;exact Rd.own h5
  refine ρ ?_;refine ix k af a2 ?_;refine ρ ?_;refine ld (af.cell (Jzm (show k<(Jjf n).length by omega))) ?_;refine ρ ?_;rw [Xwn aa ac];refine ci (λh=>?_) (λh=>?_)
  .have Z:k<(Jjf m).length:=by have:=oT h;omega
   refine ρ ?_;refine ix k ae Z ?_;refine ρ ?_;refine ld (ae.cell (Jzm Z)) ?_;refine ρ ?_;refine ix k a3 om ?_;obtain ⟨s1,s2,s3,s4⟩:=store (dif ((Jjf n).getD k 0).toNat c ((Jjf m).getD k 0).toNat);rw [Xwm aa ac ai,Jhp];refine sto (s1.trans C) s2 ?_;refine ρ ?_;refine Qdw rfl rfl (by decide) rfl ?_;refine ρ ?_;refine Jqf (k+1) (dif ((Jjf n).getD k 0).toNat c ((Jjf m).getD k 0).toNat / 9223372036854775808) (i++[UInt32.ofNat (dif ((Jjf n).getD k 0).toNat c ((Jjf m).getD k 0).toNat)]) ?_ ⟨s4,om,hI.step rfl,s3⟩ om;rw [Xws];exact sB
  .have ab:(Jjf m).length<=k:=by have:=oF h;omega
   have ag:(Jjf m).getD k 0=0:=by simp [List.getD,List.getElem?_eq_none ab]
   refine ρ ?_;refine ix k a3 om ?_;obtain ⟨s1,s2,s3,s4⟩:=store (dif ((Jjf n).getD k 0).toNat c 0);rw [Jhp];refine sto (s1.trans C) s2 ?_;refine ρ ?_;refine Qdw rfl rfl (by decide) rfl ?_;refine ρ ?_;refine Jqf (k+1) (dif ((Jjf n).getD k 0).toNat c 0 / 9223372036854775808) (i++[UInt32.ofNat (dif ((Jjf n).getD k 0).toNat c 0)]) ?_ ⟨s4,om,hI.step (by rw [ag];rfl),s3⟩ om;rw [Xws];exact sB
 .have ak:k=L:=by have:=oF h;omega
  subst ak;have a6:Rd G 1 O i.length (Nc i):=by
   have:=Rd.own (show G.ownsRow w'.heap.size 117 1 (.slice O k k) k (Nc i) by
    have h5:=a1;rw [Jhk,Nat.sub_self,List.replicate_zero,List.append_nil,U]at h5;exact h5)
   rw [U];exact this
  have a5:val i=n-m:=by
   obtain ⟨i1,i2,i3⟩:=hI;rw [List.take_of_length_le (show (Jjf n).length<=k by omega),List.take_of_length_le (show (Jjf m).length<=k by omega),Jql,Jql]at i3;have hv:=Qfs i;rw [i1]at hv;rcases Nat.eq_zero_or_pos c with h0|h0
   .subst h0;omega
   .have:c=1:=om
    subst this;omega
  refine ρ ?_;rw [<-U];refine cl (Jvs a6 (Nat.le_refl _) om) ?_;rintro t w4 ⟨rfl,rfl⟩;have:=Jfc a6 om;rw [a5]at this ⊢;refine ρ ?_;refine Qyg ⟨⟨_,?_,this,λad _ _ e=>nL ah (hO ad (by injection e))⟩,j.trans J⟩;rw [if_neg om]
end Go.Proofs.YtefpailelagbkaaGreatDoor
namespace Go.Proofs.YtefpailelagbkaaGreatDoor
namespace Pl
structure V where
 kind: Int
 num:Int
 str:ByteArray
def V.bytes(v:V): List UInt8:=v.str.data.toList
def V.cells(v:V): List Value:=[.int .i64 v.kind,.int .i64 v.num,.string v.str]
def V.val(v:V): Value:=.agg #[.int .i64 v.kind,.int .i64 v.num,.string v.str]
end Pl
open Go.RowKit Pl Go.Wk
attribute [local irreducible] WC WL QX WD WDB
def V0: V:=⟨0,0,⟨#[]⟩⟩
def Jzf(r:List V): List Value:=r.flatMap V.cells
abbrev RdR(w:World)(A:Option Addr)(r:List V): Prop:=Rd w 3 A r.length (Jzf r)
abbrev RdB(w:World)(A:Option Addr)(ds:List Bool): Prop:=Rd w 1 A ds.length (ds.map Value.bool)
theorem Qwv(r:List V): (Jzf r).length=r.length*3:=by
 induction r with
 | nil=>rfl
 | cons v r ih=>simp only [Jzf,List.flatMap_cons,List.length_append,V.cells,List.length_cons,List.length_nil]at ih ⊢;omega
theorem Jrz: ∀ (r:List V) (i j:Nat),i<r.length->j<3->(Jzf r)[i*3+j]?=(r.getD i V0).cells[j]?
 | [],i,j,h,_=>by simp at h
 | v::r,0,j,_,hj=>by
  simp only [Jzf,List.flatMap_cons,Nat.zero_mul,Nat.zero_add,List.getD_cons_zero];rw [List.getElem?_append_left (by simp [V.cells];omega)]
 | v::r,i+1,j,h,hj=>by
  have ih:=Jrz r i j (by simpa using h) hj;simp only [Jzf,List.flatMap_cons,List.getD_cons_succ]at ih ⊢;rw [List.getElem?_append_right (by simp [V.cells];omega),<-ih];congr 1
  simp [V.cells];omega
theorem RdR.cell{w:World}{A:Option Addr}{r:List V}(h:RdR w A r){i j:Nat}{u:Value}(hi:i<r.length)(hu:(r.getD i V0).cells[j]?=some u): w.cell? ((adr A (i*3)).add j)=some u:=by
 have o:j<3:=by have:=(List.getElem?_eq_some_iff.1 hu).1;simpa [V.cells] using this
 rw [Jqw];exact Rd.cell h (by rw [Jrz r i j hi o];exact hu)
theorem RdB.cell{w:World}{A:Option Addr}{ds:List Bool}(h:RdB w A ds){i:Nat}(hi:i<ds.length): w.cell? (adr A i)=some (.bool (ds.getD i false)) :=
 Rd.cell h (by simp [List.getElem?_eq_getElem hi])
theorem Qrm{r:List V}{i:Nat}(h:i<r.length): r.getD i V0∈r:=by simp [List.getD,List.getElem?_eq_getElem h]
theorem V.one(v:V): ∀ u∈v.cells,u.oneCell'=true:=by
 intro u i;simp [V.cells]at i;rcases i with rfl|rfl|rfl<;>rfl
theorem Jhc(r:List V): ∀ u∈Jzf r,u.oneCell'=true:=by
 intro u j;obtain ⟨v,_,i⟩:=List.mem_flatMap.1 j;simp [V.cells]at i;rcases i with rfl|rfl|rfl<;>rfl
theorem Qpg(a b:List V): Jzf (a++b)=Jzf a++Jzf b:=by simp [Jzf]
def cmpV(a b:V): Int:=if a.kind≠b.kind then sgn a.kind b.kind else if a.num≠b.num then sgn a.num b.num else Lib.compareBytes a.bytes b.bytes
def neg(d:Bool)(c:Int): Int:=if d then -c else c
def Jxg: List V->List V->List Bool->Int
 | [],[],_=>0
 | [],_::_,_=>-1
 | _::_,[],_=>1
 | x::a,y::b,ds=>if cmpV x y=0 then Jxg a b (ds.drop 1) else neg (ds.getD 0 false) (cmpV x y)
theorem Jfs(a b:ByteArray)(w:World): Ret Tryz.prog 148 [.string a,.string b] w λv w'=>v=.int .i64 (Lib.compareBytes a.data.toList b.data.toList)/\w'=w:=by
 refine Jjc Tryz.func148 Tryz.ntmps148 rfl kr rfl ?_;refine ρ ?_;refine wext (vs:=[.string a,.string b]) (v:=.int .i64 (Lib.compareBytes a.data.toList b.data.toList)) (w':=w) ?_ ?_
 .rw [run_callFunc_extern Tryz.func165 kr kr kr (e:=Extern.BytealgCompare.compare) kr,Lib.run_compareString];rfl
 refine ρ ?_;exact Jjq ⟨rfl,rfl⟩
theorem Jdb(a b:ByteArray)(w:World): Ret Tryz.prog 111 [.string a,.string b] w λv w'=>v=.int .i64 (Lib.compareBytes a.data.toList b.data.toList)/\w'=w:=by
 refine Jjc Tryz.func111 Tryz.ntmps111 rfl kr rfl ?_;refine ρ ?_;refine cl (Jfs a b w) ?_;rintro v w' ⟨rfl,rfl⟩;refine ρ ?_;exact Jjq ⟨rfl,rfl⟩
theorem Jxk(a b:V)(w:World): Ret Tryz.prog 74 [a.val,b.val] w λr w'=>r=.int .i64 (cmpV a b)/\Ext w w':=by
 refine Jjc Tryz.func74 Tryz.ntmps74 rfl kr rfl ?_;refine ρ ?_;refine bx ?_;intro w1 b1 C U i;refine ρ ?_;refine bx ?_;intro Z b2 o O j;have i:=i.ext o;have G:=C.trans o;refine ρ ?_;refine ld (i.at rfl) ?_;refine ρ ?_;refine ld (j.at rfl) ?_;refine ρ ?_;refine ci (λu=>?_) (λu=>?_)
 .refine ρ ?_;refine ld (i.at rfl) ?_;refine ρ ?_;refine ld (j.at rfl) ?_;refine ρ ?_;refine cl (Jmw _ _ _) ?_;rintro t J ⟨rfl,rfl⟩;refine ρ ?_;refine Jjq ⟨?_,G⟩;rw [cmpV,if_pos (by simpa using u)]
 .refine ρ ?_;refine ld (i.at rfl) ?_;refine ρ ?_;refine ld (j.at rfl) ?_;refine ρ ?_;refine ci (λhn=>?_) (λhn=>?_)
  .refine ρ ?_;refine ld (i.at rfl) ?_;refine ρ ?_;refine ld (j.at rfl) ?_;refine ρ ?_;refine cl (Qkn _ _ _) ?_;rintro t J ⟨rfl,rfl⟩;refine ρ ?_;refine Jjq ⟨?_,G⟩;rw [cmpV,if_neg (by simpa using u),if_pos (by simpa using hn)]
  .refine ρ ?_;refine ld (i.at rfl) ?_;refine ρ ?_;refine ld (j.at rfl) ?_;refine ρ ?_;refine cl (Jdb _ _ _) ?_;rintro t J ⟨rfl,rfl⟩;refine ρ ?_;refine Jjq ⟨?_,G⟩;rw [cmpV,if_neg (by simpa using u),if_neg (by simpa using hn)];rfl
end Go.Proofs.YtefpailelagbkaaGreatDoor
