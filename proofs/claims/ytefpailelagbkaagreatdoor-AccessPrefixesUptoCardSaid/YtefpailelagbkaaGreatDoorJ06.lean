/- Part 6 of the proof: Nat4. -/
import Derived.Test.YtefpailelagbkaaGreatDoorJ05
import Derived.Laws.Cover3
import Derived.Lib.Bytealg
set_option linter.unusedVariables false
set_option maxRecDepth 100000
set_option maxHeartbeats 40000000
namespace Go.Wk
open Go.RowKit
section
variable {P:Program} {n:Nat} {al:AL} {w:World} {Q:Exit->Act->World->Prop} {ops:Array Oper} {rest:List Oper}
variable {d ty:Nat} {op:Op} {pos:String} {aft:Array Edge} {tt:TT}
theorem Xjf[h:Tab P tt]{x:Operand}{t t2 e:Nat}{k:TK}{A:Option Addr}{m c:Nat}(kk:WL P n ops Q rest ((d,.bool A.isNone)::al) w)(ht:tk tt t=some k:=by rfl)(hk:k.desc=.slice e:=by rfl)(hx:ev al x=some (.slice A m c):=by rfl)(hd:Nat.blt d n=true:=by rfl): WL P n ops Q (⟨some d,.binOp .eql t x (.const (.slice none 0 0)) t2,ty,pos,aft,none⟩::rest) al w :=
 wop hd (λa ha=>by
  have hu:=(Jvb h.ok ht hk rfl).1;have h2:a.eval (.const (.slice none 0 0))=.slice none 0 0:=rfl;simp [execOp,ha.ev hx,h2,eqGuard,binOp,run_equal_slice_nil w t e A m c hu]) kk
end
end Go.Wk
namespace Go.Proofs.YtefpailelagbkaaGreatDoor
open Go.RowKit Pl Go.Wk
attribute [local irreducible] WC WL QX WD WDB
theorem EB: ElT Tryz.prog 22 4 1 1 (.bool false):=⟨Tryz.underlying22,info_parts (by kernel_rfl),rfl,by decide⟩
theorem EI: ElT Tryz.prog 23 3 1 8 (.int .i64 0):=⟨Tryz.underlying23,info_parts (by kernel_rfl),rfl,by decide⟩
theorem Qnk(w:World): (Instr.buildSlice 22 0 #[]).run Tryz.prog w=.ok (.slice (some ⟨w.heap.size,0,none⟩) 0 0) (w.alloc (.cells ([]:List Value).toArray 4)):=by kernel_rfl
theorem Xcg{A:Option Addr}{n c:Nat}{cs:List Value}{w:World}(hr:Rd w 1 A n cs)(h1:∀ u∈cs,u.oneCell'=true)(hb:n*1<=140737488355328):
  Ret Tryz.prog 132 [.slice A n c] w λv w'=>(∃ A' c',v=.slice A' n c'/\n<=c'/\Rd w' 1 A' n cs)/\Ext w w':=by
 refine Jjb Tryz.func132 Tryz.ntmps132 rfl (by kernel_rfl) rfl ?_;refine ρ ?_;refine Xjf ?_;refine ρ ?_;refine ci (λh=>?_) (λh=>?_)
 ·have hA:A=none:=by simpa using h
  subst hA;have hn:n=0:=by
   rcases Nat.eq_zero_or_pos n with h0|h0
   ·exact h0
   ·obtain ⟨ad,h2,_⟩:=hr.isome h0 (by omega);cases h2
  subst hn;refine ρ ?_;exact Jjq ⟨⟨none,0,rfl,Nat.le_refl _,hr⟩,Ext.refl w⟩
 ·refine ρ ?_;refine bsl Qnk ?_;intro w1 b hx1 hb1 hk1;refine ρ ?_;refine apo hx1 EB (hk1.own (n:=0) hb1 rfl (Nat.zero_le _)) (hr.ext hx1) h1 (by unfold maxLen;omega) (by omega) ?_;intro v2 w2 ho2 hx2 _ _;obtain ⟨A2,c2,rfl,hc2,_⟩:=Jjd ho2;refine ρ ?_;rw [Nat.zero_add]at ho2 hc2 ⊢;exact Jjq ⟨⟨A2,c2,rfl,hc2,Rd.own ho2⟩,hx2⟩
theorem Qfh{A:Option Addr}{n c:Nat}{cs:List Value}{w:World}(hr:Rd w 1 A n cs)(h1:∀ u∈cs,u.oneCell'=true)(hb:n*1<=140737488355328):
  Ret Tryz.prog 132 [.slice A n c] w λv w'=>(∃ A' c',v=.slice A' n c'/\n<=c'/\Rd w' 1 A' n cs/\∀ ad,A'=some ad->w.heap.size<=ad.block)/\Ext w w':=by
 refine Jjb Tryz.func132 Tryz.ntmps132 rfl (by kernel_rfl) rfl ?_;refine ρ ?_;refine Xjf ?_;refine ρ ?_;refine ci (λh=>?_) (λh=>?_)
 ·have hA:A=none:=by simpa using h
  subst hA;have hn:n=0:=by
   rcases Nat.eq_zero_or_pos n with h0|h0
   ·exact h0
   ·obtain ⟨ad,h2,_⟩:=hr.isome h0 (by omega);cases h2
  subst hn;refine ρ ?_;exact Jjq ⟨⟨none,0,rfl,Nat.le_refl _,hr,λad e=>by cases e⟩,Ext.refl w⟩
 ·refine ρ ?_;refine bsl Qnk ?_;intro w1 b hx1 hb1 hk1;refine ρ ?_;refine apo hx1 EB (hk1.own (n:=0) hb1 rfl (Nat.zero_le _)) (hr.ext hx1) h1 (by unfold maxLen;omega) (by omega) ?_;intro v2 w2 ho2 hx2 _ _;obtain ⟨A2,c2,rfl,hc2,hf⟩:=Jjd ho2;refine ρ ?_;rw [Nat.zero_add]at ho2 hc2 ⊢;exact Jjq ⟨⟨A2,c2,rfl,hc2,Rd.own ho2,λad e=>by subst e;exact (hf ad.block rfl).1⟩,hx2⟩
theorem Jhf(w:World): (Instr.buildSlice 40 0 #[]).run Tryz.prog w=.ok (.slice (some ⟨w.heap.size,0,none⟩) 0 0) (w.alloc (.cells ([]:List Value).toArray 71)):=by kernel_rfl
theorem Qst{A:Option Addr}{n c:Nat}{cs:List Value}{w:World}(hr:Rd w 3 A n cs)(h1:∀ u∈cs,u.oneCell'=true)(hb:n*32<=140737488355328):
  Ret Tryz.prog 68 [.slice A n c] w λv w'=>(∃ A' c',v=.slice A' n c'/\n<=c'/\Rd w' 3 A' n cs)/\Ext w w':=by
 refine Jjb Tryz.func68 Tryz.ntmps68 rfl (by kernel_rfl) rfl ?_;refine ρ ?_;refine Xjf ?_;refine ρ ?_;refine ci (λh=>?_) (λh=>?_)
 ·have hA:A=none:=by simpa using h
  subst hA;have hn:n=0:=by
   rcases Nat.eq_zero_or_pos n with h0|h0
   ·exact h0
   ·obtain ⟨ad,h2,_⟩:=hr.isome h0 (by omega);cases h2
  subst hn;refine ρ ?_;exact Jjq ⟨⟨none,0,rfl,Nat.le_refl _,hr⟩,Ext.refl w⟩
 ·refine ρ ?_;refine bsl Jhf ?_;intro w1 b hx1 hb1 hk1;refine ρ ?_;refine apo hx1 EV (hk1.own (n:=0) hb1 rfl (Nat.zero_le _)) (hr.ext hx1) h1 (by unfold maxLen;omega) (by omega) ?_;intro v2 w2 ho2 hx2 _ _;obtain ⟨A2,c2,rfl,hc2,_⟩:=Jjd ho2;refine ρ ?_;rw [Nat.zero_add]at ho2 hc2 ⊢;exact Jjq ⟨⟨A2,c2,rfl,hc2,Rd.own ho2⟩,hx2⟩
theorem Xjz(w:World): (Instr.buildSlice 32 0 #[]).run Tryz.prog w=.ok (.slice (some ⟨w.heap.size,0,none⟩) 0 0) (w.alloc (.cells ([]:List Value).toArray 117)):=by kernel_rfl
theorem Qsv{A:Option Addr}{n c:Nat}{cs:List Value}{w:World}(hr:Rd w 1 A n cs)(h1:∀ u∈cs,u.oneCell'=true)(hb:n*4<=140737488355328):
  Ret Tryz.prog 102 [.slice A n c] w λv w'=>(∃ A' c',v=.slice A' n c'/\n<=c'/\Rd w' 1 A' n cs)/\Ext w w':=by
 refine Jjb Tryz.func102 Tryz.ntmps102 rfl (by kernel_rfl) rfl ?_;refine ρ ?_;refine Xjf ?_;refine ρ ?_;refine ci (λh=>?_) (λh=>?_)
 ·have hA:A=none:=by simpa using h
  subst hA;have hn:n=0:=by
   rcases Nat.eq_zero_or_pos n with h0|h0
   ·exact h0
   ·obtain ⟨ad,h2,_⟩:=hr.isome h0 (by omega);cases h2
  subst hn;refine ρ ?_;exact Jjq ⟨⟨none,0,rfl,Nat.le_refl _,hr⟩,Ext.refl w⟩
 ·refine ρ ?_;refine bsl Xjz ?_;intro w1 b hx1 hb1 hk1;refine ρ ?_;refine apo hx1 EN (hk1.own (n:=0) hb1 rfl (Nat.zero_le _)) (hr.ext hx1) h1 (by unfold maxLen;omega) (by omega) ?_;intro v2 w2 ho2 hx2 _ _;obtain ⟨A2,c2,rfl,hc2,_⟩:=Jjd ho2;refine ρ ?_;rw [Nat.zero_add]at ho2 hc2 ⊢;exact Jjq ⟨⟨A2,c2,rfl,hc2,Rd.own ho2⟩,hx2⟩
open Go.RowKit Pl Go.Wk
open Go.RowKit Pl Go.Wk
theorem Jmm(z:Value)(n:Nat): (madeCells #[z] n).toList=List.replicate n z:=by
 unfold madeCells;apply List.ext_getElem
 ·simp
 ·intro i h1 h2;simp [Nat.mod_one]
theorem Qvc(n:Nat): List.replicate n (Value.int .u32 0)=Nc (List.replicate n 0):=by simp [Nc]
theorem Jrv(l:List UInt32)(i:Nat)(c:UInt32): (Nc l).set i (.int .u32 (c.toNat:Int))=Nc (l.set i c):=by simp [Nc,List.map_set]
theorem Qnz{x c:Nat}(hx:x<4294967296)(hc:c<=1): IntKind.u64.wrap ((c:Int)+IntKind.u64.wrap (x:Int))=((c+x:Nat):Int):=by
 simp only [IntKind.wrap_u64];omega
theorem Xxh(n:Nat): (n:Int).fdiv (2^min (32:Int).toNat IntKind.u64.bits)=((n / 4294967296:Nat):Int):=by
 have e:(2:Int)^min (32:Int).toNat IntKind.u64.bits=((4294967296:Nat):Int):=by decide
 rw [e,Int.fdiv_eq_ediv_of_nonneg _ (Int.natCast_nonneg _)];omega
def AddInv(a b:List UInt32)(i c:Nat)(os:List UInt32): Prop:=os.length=i/\c<=1/\val os+4294967296^i*c=val (a.take i)+val (b.take i)
theorem Jbd{a:List UInt32}{i:Nat}: val (a.take (i+1))=val (a.take i)+4294967296^i*(a.getD i 0).toNat:=by
 rcases Nat.lt_or_ge i a.length with h|h
 ·have hsn:a.take (i+1)=a.take i++[a.getD i 0]:=by
   rw [List.take_succ_eq_append_getElem h];simp [List.getD,List.getElem?_eq_getElem h]
  rw [hsn,Jcp,List.length_take,Nat.min_eq_left (by omega)];simp [val]
 ·rw [List.take_of_length_le (by omega),List.take_of_length_le h];have:a.getD i 0=0:=by simp [List.getD,List.getElem?_eq_none h]
  rw [this];simp
theorem AddInv.step{a b:List UInt32}{i c:Nat}{os:List UInt32}(h:AddInv a b i c os){s:Nat}(hs:s=c+(a.getD i 0).toNat+(b.getD i 0).toNat): AddInv a b (i+1) (s / 4294967296) (os++[UInt32.ofNat s]):=by
 obtain ⟨h1,h2,h3⟩:=h;have hx:(a.getD i 0).toNat<4294967296:=(a.getD i 0).toNat_lt;have hy:(b.getD i 0).toNat<4294967296:=(b.getD i 0).toNat_lt;refine ⟨by simp [h1],by omega,?_⟩;rw [Jcp,h1,Jbd,Jbd];simp only [val,UInt32.toNat_ofNat'];have e:4294967296^(i+1)*(s / 4294967296)=4294967296^i*(4294967296*(s / 4294967296)):=by rw [Nat.pow_succ,Nat.mul_assoc]
 rw [e];have e2:4294967296^i*(s % 2^32+4294967296*0)+4294967296^i*(4294967296*(s / 4294967296))=4294967296^i*s:=by
  rw [<-Nat.mul_add];congr 1;omega
 have e3:4294967296^i*s=4294967296^i*c+4294967296^i*(a.getD i 0).toNat+4294967296^i*(b.getD i 0).toNat:=by
  rw [hs,Nat.mul_add,Nat.mul_add]
 omega
theorem Qkd(os:List UInt32)(r:Nat)(c:UInt32): (os++List.replicate (r+1) 0).set os.length c=(os++[c])++List.replicate r 0:=by
 rw [List.set_append_right _ _ (Nat.le_refl _)];simp [List.replicate_succ]
theorem Xwb{s y:Nat}(hs:s<9223372036854775808)(hy:y<4294967296): IntKind.u64.wrap ((s:Int)+IntKind.u64.wrap (y:Int))=((s+y:Nat):Int):=by
 simp only [IntKind.wrap_u64];omega
abbrev Jhx(w:World)(base:Nat)(v:Value)(l:List UInt32): Prop:=w.ownsRow base 117 1 v l.length (Nc l)
def Fresh(w:World)(v:Value): Prop:=∀ ad n c,v=.slice (some ad) n c->w.heap.size<=ad.block
theorem Jkk{v u:Value}{n m:Nat}{w:World}(hv:NatV w v n)(hu:NatV w u m)(hln:(Jjf n).length<=1000)(hlm:(Jjf m).length<=1000): Ret Tryz.prog 35 [v,u] w λr w'=>NatV w' r (n+m)/\Fresh w r/\Ext w w':=by
 refine Jjb Tryz.func35 Tryz.ntmps35 rfl (by kernel_rfl) rfl ?_;refine ρ ?_;refine cl (Jlg hv) ?_;rintro v' w' ⟨⟨A,rfl,ha⟩,rfl⟩;refine ρ ?_;refine cl (Jlg hu) ?_;rintro u' w'' ⟨⟨B,rfl,hb⟩,rfl⟩;refine ρ ?_;refine Jzl (λs:(Option Addr×Nat)×(Option Addr×Nat)=>[(0,.slice s.1.1 (Jjf s.1.2).length (Jjf s.1.2).length),(1,.slice s.2.1 (Jjf s.2.2).length (Jjf s.2.2).length)])
  (λs w'=>w'=w''/\(Jjf s.2.2).length<=(Jjf s.1.2).length/\s.1.2+s.2.2=n+m/\Rd w'' 1 s.1.1 (Jjf s.1.2).length (Nc (Jjf s.1.2))/\Rd w'' 1 s.2.1 (Jjf s.2.2).length (Nc (Jjf s.2.2))/\(Jjf s.1.2).length<=1000) ?_ ?_
 ·refine ci (λh=>?_) (λh=>?_)
  ·refine ρ ?_;exact Jjn ((B,m),(A,n)) sB ⟨rfl,by have:=of_decide_eq_true h;simp only;omega,Nat.add_comm _ _,hb,ha,hlm⟩
  ·refine ρ ?_;exact Jjn ((A,n),(B,m)) sB ⟨rfl,by have:=of_decide_eq_false h;simp only;omega,rfl,ha,hb,hln⟩
 rintro ⟨⟨A,x⟩,⟨B,y⟩⟩ w' ⟨rfl,hle,hsum,ha,hb,hl⟩;simp only at hle hsum ha hb hl;generalize hL:(Jjf x).length=L at *
 refine ρ ?_;refine mkn EN (L+1) (by omega) (by unfold maxLen;omega) ?_;intro w1 O hx1 ho1 hO;have ho1':Jhx w1 w'.heap.size (.slice O (L+1) (L+1)) ([]++List.replicate (L+1) 0):=by
  have e:(madeCells (Value.int .u32 0).cells ((L+1)*1)).toList=Nc (List.replicate (L+1) 0):=by rw [Nat.mul_one,<-Qvc];exact Jmm _ _
  rw [e]at ho1;rw [Jhx,List.nil_append,List.length_replicate];exact ho1
 refine ρ ?_;refine Jzk (fun (k c:Nat) (os:List UInt32)=>[(0,.slice A L L),(1,.slice B (Jjf y).length (Jjf y).length),(5,.slice O (L+1) (L+1)),(6,.int .u64 (c:Int)),(24,.int .i64 (L:Int)),(25,.int .i64 (k:Int))])
  (λk c os w2=>Ext w' w2/\k<=L/\AddInv (Jjf x) (Jjf y) k c os/\Jhx w2 w'.heap.size (.slice O (L+1) (L+1)) (os++List.replicate (L+1-k) 0)) (λk _ _=>L-k) 0 0 [] sB
  ⟨hx1,Nat.zero_le _,⟨rfl,by omega,rfl⟩,ho1'⟩ ?_
 rintro k c os w2 ⟨hx2,hk,hI,ho2⟩;have hol:=hI.1;have hc1:=hI.2.1;have ha2:=ha.ext hx2;have hb2:=hb.ext hx2;refine ρ ?_;refine ci (λh=>?_) (λh=>?_)
 ·have hlt:k<L:=by have:=of_decide_eq_true h;omega
  have hlx:((Jjf x).getD k 0).toNat<4294967296:=((Jjf x).getD k 0).toNat_lt;have hly:((Jjf y).getD k 0).toNat<4294967296:=((Jjf y).getD k 0).toNat_lt;have hlen:(os++List.replicate (L+1-k) (0:UInt32)).length=L+1:=by simp;omega
  have store:∀ s:Nat,w2.cell? (adr O k)=(Nc (os++List.replicate (L+1-k) 0))[k]?/\w2.frozen? (adr O k)=false /\
    Jhx (w2.setCell (adr O k) (.int .u32 ((UInt32.ofNat s).toNat:Int))) w'.heap.size (.slice O (L+1) (L+1)) ((os++[UInt32.ofNat s])++List.replicate (L+1-(k+1)) 0)/\Ext w' (w2.setCell (adr O k) (.int .u32 ((UInt32.ofNat s).toNat:Int))):=λs=>by
   have ho3:=ho2;rw [Jhx,hlen]at ho3;obtain ⟨s1,s2,s3,s4,s5⟩:=Jqq ho3 (q:=k) (by omega) (.int .u32 ((UInt32.ofNat s).toNat:Int));refine ⟨s1,s2,?_,hx2.setCell s4 _⟩;rw [Jrv,show L+1-k=(L-k)+1 by omega]at s3;have e:=Qkd os (L-k) (UInt32.ofNat s);rw [hol]at e;rw [e]at s3;rw [Jhx,show L+1-(k+1)=L-k by omega];have e2:((os++[UInt32.ofNat s])++List.replicate (L-k) (0:UInt32)).length=L+1:=by simp;omega
   rw [e2];exact s3
  have hcell:(Nc (os++List.replicate (L+1-k) 0))[k]?=some (.int .u32 (((os++List.replicate (L+1-k) 0).getD k 0).toNat:Int)):=Jzr (by rw [hlen];omega);have rdO:Rd w2 1 O (L+1) (Nc (os++List.replicate (L+1-k) 0)):=by have h5:=ho2;rw [Jhx,hlen]at h5;exact Rd.own h5
  refine ρ ?_;refine ix k ha2 hlt ?_;refine ρ ?_;refine ld (ha2.cell (Jzr (show k<(Jjf x).length by omega))) ?_;refine ρ ?_;rw [Qnz hlx hc1];refine ci (λh=>?_) (λh=>?_)
  ·have hlt2:k<(Jjf y).length:=by have:=of_decide_eq_true h;omega
   refine ρ ?_;refine ix k hb2 hlt2 ?_;refine ρ ?_;refine ld (hb2.cell (Jzr hlt2)) ?_;refine ρ ?_;refine ix k rdO (by omega) ?_;obtain ⟨s1,s2,s3,s4⟩:=store (c+((Jjf x).getD k 0).toNat+((Jjf y).getD k 0).toNat);rw [Xwb (by omega) hly,Jld];refine sto (s1.trans hcell) s2 ?_;refine ρ ?_;refine Qfp rfl rfl (by decide) rfl ?_;refine ρ ?_;refine Jqf (k+1) ((c+((Jjf x).getD k 0).toNat+((Jjf y).getD k 0).toNat) / 4294967296) (os++[UInt32.ofNat (c+((Jjf x).getD k 0).toNat+((Jjf y).getD k 0).toNat)]) ?_ ⟨s4,by omega,hI.step rfl,s3⟩ (by omega);rw [Xxh];exact sB
  ·have hge:(Jjf y).length<=k:=by have:=of_decide_eq_false h;omega
   have hy0:(Jjf y).getD k 0=0:=by simp [List.getD,List.getElem?_eq_none hge]
   refine ρ ?_;refine ix k rdO (by omega) ?_;obtain ⟨s1,s2,s3,s4⟩:=store (c+((Jjf x).getD k 0).toNat);rw [Jld];refine sto (s1.trans hcell) s2 ?_;refine ρ ?_;refine Qfp rfl rfl (by decide) rfl ?_;refine ρ ?_;refine Jqf (k+1) ((c+((Jjf x).getD k 0).toNat) / 4294967296) (os++[UInt32.ofNat (c+((Jjf x).getD k 0).toNat)]) ?_ ⟨s4,by omega,hI.step (by rw [hy0];rfl),s3⟩ (by omega);rw [Xxh];exact sB
 ·have hkL:k=L:=by have:=of_decide_eq_false h;omega
  subst hkL;have hlen:(os++List.replicate (k+1-k) (0:UInt32)).length=k+1:=by simp;omega
  have ho3:=ho2;rw [Jhx,hlen]at ho3;have hcell:(Nc (os++List.replicate (k+1-k) 0))[k]?=some (.int .u32 (((os++List.replicate (k+1-k) 0).getD k 0).toNat:Int)):=Jzr (by rw [hlen];omega);obtain ⟨s1,s2,s3,s4,s5⟩:=Jqq ho3 (q:=k) (by omega) (.int .u32 ((UInt32.ofNat c).toNat:Int));rw [Jrv,show k+1-k=0+1 by omega]at s3;have e:=Qkd os 0 (UInt32.ofNat c);rw [hol,List.replicate_zero,List.append_nil]at e;rw [e]at s3;have hx3:=hx2.setCell s4 (.int .u32 ((UInt32.ofNat c).toNat:Int));refine ρ ?_;refine ix k (Rd.own ho3) (by omega) ?_;rw [Jld];refine sto (s1.trans hcell) s2 ?_;refine ρ ?_;have hl3:(os++[UInt32.ofNat c]).length=k+1:=by simp;omega
  have hr3:=Rd.own s3;have hval:val (os++[UInt32.ofNat c])=n+m:=by
   obtain ⟨i1,i2,i3⟩:=hI;rw [Jcp,i1];simp only [val,UInt32.toNat_ofNat'];rw [<-hsum,<-Jqp x,<-Jqp y,<-List.take_of_length_le (show (Jjf x).length<=k by omega),<-List.take_of_length_le (show (Jjf y).length<=k by omega),<-i3,show c % 2^32+4294967296*0=c by omega]
  rw [<-hl3]at hr3 ⊢;refine cl (Jvw hr3 (Nat.le_refl _) (by omega)) ?_;rintro t w4 ⟨rfl,rfl⟩;have:=Jfp hr3 (by omega);rw [hval]at this ⊢;refine ρ ?_;exact Jjq ⟨this,λad _ _ e=>hO ad (by injection e),hx3⟩
open Go.RowKit Pl Go.Wk
def dif(x c y:Nat): Nat:=(18446744073709551616+x-c-y) % 18446744073709551616
theorem Xvw{x c:Nat}(hx:x<4294967296)(hc:c<=1): IntKind.u64.wrap (IntKind.u64.wrap (x:Int)-(c:Int))=(dif x c 0:Int):=by
 unfold dif;simp only [IntKind.wrap_u64];omega
theorem Xvv{x c y:Nat}(hx:x<4294967296)(hc:c<=1)(hy:y<4294967296): IntKind.u64.wrap ((dif x c 0:Int)-IntKind.u64.wrap (y:Int))=(dif x c y:Int):=by
 unfold dif;simp only [IntKind.wrap_u64];omega
theorem Xyc(n:Nat): (n:Int).fdiv (2^min (63:Int).toNat IntKind.u64.bits)=((n / 9223372036854775808:Nat):Int):=by
 have e:(2:Int)^min (63:Int).toNat IntKind.u64.bits=((9223372036854775808:Nat):Int):=by decide
 rw [e,Int.fdiv_eq_ediv_of_nonneg _ (Int.natCast_nonneg _)];omega
theorem Xbz{x c y:Nat}(hx:x<4294967296)(hc:c<=1)(hy:y<4294967296): dif x c y % 4294967296+y+c=x+4294967296*(dif x c y / 9223372036854775808)/\dif x c y / 9223372036854775808<=1:=by
 unfold dif;omega
def SubInv(a b:List UInt32)(i c:Nat)(os:List UInt32): Prop:=os.length=i/\c<=1/\val os+val (b.take i)=val (a.take i)+4294967296^i*c
theorem SubInv.step{a b:List UInt32}{i c:Nat}{os:List UInt32}(h:SubInv a b i c os){s:Nat}(hs:s=dif (a.getD i 0).toNat c (b.getD i 0).toNat):
  SubInv a b (i+1) (s / 9223372036854775808) (os++[UInt32.ofNat s]):=by
 obtain ⟨h1,h2,h3⟩:=h;have hx:(a.getD i 0).toNat<4294967296:=(a.getD i 0).toNat_lt;have hy:(b.getD i 0).toNat<4294967296:=(b.getD i 0).toNat_lt;obtain ⟨k1,k2⟩:=Xbz hx h2 hy;rw [<-hs]at k1 k2;refine ⟨by simp [h1],k2,?_⟩;rw [Jcp,h1,Jbd,Jbd];simp only [val,UInt32.toNat_ofNat'];have e:4294967296^(i+1)*(s / 9223372036854775808)=4294967296^i*(4294967296*(s / 9223372036854775808)):=by rw [Nat.pow_succ,Nat.mul_assoc]
 have e2:s % 2^32+4294967296*0=s % 4294967296:=by omega
 rw [e,e2];have e3:4294967296^i*(s % 4294967296)+4294967296^i*(b.getD i 0).toNat+4294967296^i*c=4294967296^i*(a.getD i 0).toNat+4294967296^i*(4294967296*(s / 9223372036854775808)):=by
  rw [<-Nat.mul_add,<-Nat.mul_add,<-Nat.mul_add,k1]
 omega
theorem Jmj{v u:Value}{n m:Nat}{w:World}(hv:NatV w v n)(hu:NatV w u m)(hln:(Jjf n).length<=1000):
  Ret Tryz.prog 59 [v,u] w λr w'=>(∃ x,r=.tuple #[x,.int .i64 (if n<m then 19 else 0)]/\NatV w' x (n-m)/\Fresh w x)/\Ext w w':=by
 refine Jjb Tryz.func59 Tryz.ntmps59 rfl (by kernel_rfl) rfl ?_;refine ρ ?_;refine cl (Jlg hv) ?_;rintro v' w' ⟨⟨A,rfl,ha⟩,rfl⟩;refine ρ ?_;refine cl (Jlg hu) ?_;rintro u' w'' ⟨⟨B,rfl,hb⟩,rfl⟩;have hlm:(Jjf m).length<=4611686018427387904:=by obtain ⟨_,_,_,_,h,_⟩:=hu;exact h
 refine ρ ?_;refine cl (Jwl (n:=n) (m:=m) ⟨A,_,rfl,Nat.le_refl _,by omega,ha⟩ ⟨B,_,rfl,Nat.le_refl _,hlm,hb⟩) ?_;rintro t w' ⟨rfl,hx0⟩;refine ρ ?_;refine ci (λh=>?_) (λh=>?_)
 ·have hlt:n<m:=by
   have:=of_decide_eq_true h;unfold Qft at this;rcases Nat.lt_or_ge n m with h1|h1
   ·exact h1
   ·rw [if_neg (by omega)]at this;split at this<;>omega
  refine ρ ?_;refine Qjk ⟨⟨.slice none 0 0,?_,?_,λad _ _ e=>by cases e⟩,hx0⟩
  ·rw [if_pos hlt]
  ·rw [show n-m=0 by omega];exact NatV.nil _
 have hge:m<=n:=by
  have:=of_decide_eq_false h;unfold Qft at this;rcases Nat.lt_or_ge n m with h1|h1
  ·rw [if_pos h1]at this;omega
  ·exact h1
 have hle:(Jjf m).length<=(Jjf n).length:=by
  rcases Nat.lt_or_ge (Jjf n).length (Jjf m).length with h1|h1
  ·have:=Jmr h1;omega
  ·exact h1
 have ha0:=ha.ext hx0;have hb0:=hb.ext hx0;generalize hL:(Jjf n).length=L at *
 refine ρ ?_;refine mkn EN L (by omega) (by unfold maxLen;omega) ?_;intro w1 O hx1 ho1 hO;have hx01:=hx0.trans hx1;have hsz:=hx0.size;have ho1':Jhx w1 w'.heap.size (.slice O L L) ([]++List.replicate L 0):=by
  have e:(madeCells (Value.int .u32 0).cells (L*1)).toList=Nc (List.replicate L 0):=by rw [Nat.mul_one,<-Qvc];exact Jmm _ _
  rw [e]at ho1;rw [Jhx,List.nil_append,List.length_replicate];exact ho1
 refine ρ ?_;refine Jzk (fun (k c:Nat) (os:List UInt32)=>[(0,.slice A L L),(1,.slice B (Jjf m).length (Jjf m).length),(6,.slice O L L),(7,.int .u64 (c:Int)),(22,.int .i64 (L:Int)),(23,.int .i64 (k:Int))])
  (λk c os w2=>Ext w' w2/\k<=L/\SubInv (Jjf n) (Jjf m) k c os/\Jhx w2 w'.heap.size (.slice O L L) (os++List.replicate (L-k) 0)) (λk _ _=>L-k) 0 0 [] sB
  ⟨hx1,Nat.zero_le _,⟨rfl,by omega,rfl⟩,ho1'⟩ ?_
 rintro k c os w2 ⟨hx2,hk,hI,ho2⟩;have hol:=hI.1;have hc1:=hI.2.1;have ha2:=ha0.ext hx2;have hb2:=hb0.ext hx2;refine ρ ?_;refine ci (λh=>?_) (λh=>?_)
 ·have hlt:k<L:=by have:=of_decide_eq_true h;omega
  have hlx:((Jjf n).getD k 0).toNat<4294967296:=((Jjf n).getD k 0).toNat_lt;have hly:((Jjf m).getD k 0).toNat<4294967296:=((Jjf m).getD k 0).toNat_lt;have hlen:(os++List.replicate (L-k) (0:UInt32)).length=L:=by simp;omega
  have store:∀ s:Nat,w2.cell? (adr O k)=(Nc (os++List.replicate (L-k) 0))[k]?/\w2.frozen? (adr O k)=false /\
    Jhx (w2.setCell (adr O k) (.int .u32 ((UInt32.ofNat s).toNat:Int))) w'.heap.size (.slice O L L) ((os++[UInt32.ofNat s])++List.replicate (L-(k+1)) 0)/\Ext w' (w2.setCell (adr O k) (.int .u32 ((UInt32.ofNat s).toNat:Int))):=λs=>by
   have ho3:=ho2;rw [Jhx,hlen]at ho3;obtain ⟨s1,s2,s3,s4,s5⟩:=Jqq ho3 (q:=k) (by omega) (.int .u32 ((UInt32.ofNat s).toNat:Int));refine ⟨s1,s2,?_,hx2.setCell s4 _⟩;rw [Jrv,show L-k=(L-(k+1))+1 by omega]at s3;have e:=Qkd os (L-(k+1)) (UInt32.ofNat s);rw [hol]at e;rw [e]at s3;have e2:((os++[UInt32.ofNat s])++List.replicate (L-(k+1)) (0:UInt32)).length=L:=by simp;omega
   rw [Jhx,e2];exact s3
  have hcell:(Nc (os++List.replicate (L-k) 0))[k]?=some (.int .u32 (((os++List.replicate (L-k) 0).getD k 0).toNat:Int)):=Jzr (by rw [hlen];omega);have rdO:Rd w2 1 O L (Nc (os++List.replicate (L-k) 0)):=by have h5:=ho2;rw [Jhx,hlen]at h5;exact Rd.own h5
  refine ρ ?_;refine ix k ha2 hlt ?_;refine ρ ?_;refine ld (ha2.cell (Jzr (show k<(Jjf n).length by omega))) ?_;refine ρ ?_;rw [Xvw hlx hc1];refine ci (λh=>?_) (λh=>?_)
  ·have hlt2:k<(Jjf m).length:=by have:=of_decide_eq_true h;omega
   refine ρ ?_;refine ix k hb2 hlt2 ?_;refine ρ ?_;refine ld (hb2.cell (Jzr hlt2)) ?_;refine ρ ?_;refine ix k rdO (by omega) ?_;obtain ⟨s1,s2,s3,s4⟩:=store (dif ((Jjf n).getD k 0).toNat c ((Jjf m).getD k 0).toNat);rw [Xvv hlx hc1 hly,Jld];refine sto (s1.trans hcell) s2 ?_;refine ρ ?_;refine Qfp rfl rfl (by decide) rfl ?_;refine ρ ?_;refine Jqf (k+1) (dif ((Jjf n).getD k 0).toNat c ((Jjf m).getD k 0).toNat / 9223372036854775808) (os++[UInt32.ofNat (dif ((Jjf n).getD k 0).toNat c ((Jjf m).getD k 0).toNat)]) ?_ ⟨s4,by omega,hI.step rfl,s3⟩ (by omega);rw [Xyc];exact sB
  ·have hge:(Jjf m).length<=k:=by have:=of_decide_eq_false h;omega
   have hy0:(Jjf m).getD k 0=0:=by simp [List.getD,List.getElem?_eq_none hge]
   refine ρ ?_;refine ix k rdO (by omega) ?_;obtain ⟨s1,s2,s3,s4⟩:=store (dif ((Jjf n).getD k 0).toNat c 0);rw [Jld];refine sto (s1.trans hcell) s2 ?_;refine ρ ?_;refine Qfp rfl rfl (by decide) rfl ?_;refine ρ ?_;refine Jqf (k+1) (dif ((Jjf n).getD k 0).toNat c 0 / 9223372036854775808) (os++[UInt32.ofNat (dif ((Jjf n).getD k 0).toNat c 0)]) ?_ ⟨s4,by omega,hI.step (by rw [hy0];rfl),s3⟩ (by omega);rw [Xyc];exact sB
 ·have hkL:k=L:=by have:=of_decide_eq_false h;omega
  subst hkL;have hr3:Rd w2 1 O os.length (Nc os):=by
   have:=Rd.own (show w2.ownsRow w'.heap.size 117 1 (.slice O k k) k (Nc os) by
    have h5:=ho2;rw [Jhx,Nat.sub_self,List.replicate_zero,List.append_nil,hol]at h5;exact h5)
   rw [hol];exact this
  have hval:val os=n-m:=by
   obtain ⟨i1,i2,i3⟩:=hI;rw [List.take_of_length_le (show (Jjf n).length<=k by omega),List.take_of_length_le (show (Jjf m).length<=k by omega),Jqp,Jqp]at i3;have hv:=Qgl os;rw [i1]at hv;rcases Nat.eq_zero_or_pos c with h0|h0
   ·subst h0;omega
   ·have:c=1:=by omega
    subst this;omega
  refine ρ ?_;rw [<-hol];refine cl (Jvw hr3 (Nat.le_refl _) (by omega)) ?_;rintro t w4 ⟨rfl,rfl⟩;have:=Jfp hr3 (by omega);rw [hval]at this ⊢;refine ρ ?_;refine Qjk ⟨⟨_,?_,this,λad _ _ e=>Nat.le_trans hsz (hO ad (by injection e))⟩,hx0.trans hx2⟩;rw [if_neg (by omega)]
end Go.Proofs.YtefpailelagbkaaGreatDoor
namespace Go.Proofs.YtefpailelagbkaaGreatDoor
namespace Pl
structure V where
 kind: Int
 num:Int
 str:ByteArray
def V.bytes(v:V): List UInt8:=v.str.data.toList
def V.cells(v:V): List Value:=[.int .i64 v.kind,.int .i64 v.num,.string v.str]
def V.val(v:V): Value:=.agg #[.int .i64 v.kind,.int .i64 v.num,.string v.str]
end Pl
open Go.RowKit Pl Go.Wk
attribute [local irreducible] WC WL QX WD WDB
def V0: V:=⟨0,0,⟨#[]⟩⟩
def Jxs(r:List V): List Value:=r.flatMap V.cells
abbrev RdR(w:World)(A:Option Addr)(r:List V): Prop:=Rd w 3 A r.length (Jxs r)
abbrev RdB(w:World)(A:Option Addr)(ds:List Bool): Prop:=Rd w 1 A ds.length (ds.map Value.bool)
theorem Jsl(r:List V): (Jxs r).length=r.length*3:=by
 induction r with
 | nil=>rfl
 | cons v r ih=>simp only [Jxs,List.flatMap_cons,List.length_append,V.cells,List.length_cons,List.length_nil]at ih ⊢;omega
theorem Jsm: ∀ (r:List V) (i j:Nat),i<r.length->j<3->(Jxs r)[i*3+j]?=(r.getD i V0).cells[j]?
 | [],i,j,h,_=>by simp at h
 | v::r,0,j,_,hj=>by
  simp only [Jxs,List.flatMap_cons,Nat.zero_mul,Nat.zero_add,List.getD_cons_zero];rw [List.getElem?_append_left (by simp [V.cells];omega)]
 | v::r,i+1,j,h,hj=>by
  have ih:=Jsm r i j (by simpa using h) hj;simp only [Jxs,List.flatMap_cons,List.getD_cons_succ]at ih ⊢;rw [List.getElem?_append_right (by simp [V.cells];omega),<-ih];congr 1
  simp [V.cells];omega
theorem RdR.cell{w:World}{A:Option Addr}{r:List V}(h:RdR w A r){i j:Nat}{u:Value}(hi:i<r.length)(hu:(r.getD i V0).cells[j]?=some u): w.cell? ((adr A (i*3)).add j)=some u:=by
 have hj:j<3:=by have:=(List.getElem?_eq_some_iff.1 hu).1;simpa [V.cells] using this
 rw [Jqw];exact Rd.cell h (by rw [Jsm r i j hi hj];exact hu)
theorem RdB.cell{w:World}{A:Option Addr}{ds:List Bool}(h:RdB w A ds){i:Nat}(hi:i<ds.length): w.cell? (adr A i)=some (.bool (ds.getD i false)) :=
 Rd.cell h (by simp [List.getElem?_eq_getElem hi])
theorem Qsf{r:List V}{i:Nat}(h:i<r.length): r.getD i V0∈r:=by simp [List.getD,List.getElem?_eq_getElem h]
theorem V.one(v:V): ∀ u∈v.cells,u.oneCell'=true:=by
 intro u hu;simp [V.cells]at hu;rcases hu with rfl|rfl|rfl<;>rfl
theorem Jdn(r:List V): ∀ u∈Jxs r,u.oneCell'=true:=by
 intro u hu;obtain ⟨v,_,hv⟩:=List.mem_flatMap.1 hu;simp [V.cells]at hv;rcases hv with rfl|rfl|rfl<;>rfl
theorem Qrc(a b:List V): Jxs (a++b)=Jxs a++Jxs b:=by simp [Jxs]
def cmpV(a b:V): Int:=if a.kind≠b.kind then sgn a.kind b.kind else if a.num≠b.num then sgn a.num b.num else Lib.compareBytes a.bytes b.bytes
def neg(d:Bool)(c:Int): Int:=if d then -c else c
def Jxg: List V->List V->List Bool->Int
 | [],[],_=>0
 | [],_::_,_=>-1
 | _::_,[],_=>1
 | x::a,y::b,ds=>if cmpV x y=0 then Jxg a b (ds.drop 1) else neg (ds.getD 0 false) (cmpV x y)
theorem Jgg(a b:ByteArray)(w:World): Ret Tryz.prog 148 [.string a,.string b] w λv w'=>v=.int .i64 (Lib.compareBytes a.data.toList b.data.toList)/\w'=w:=by
 refine Jjb Tryz.func148 Tryz.ntmps148 rfl (by kernel_rfl) rfl ?_;refine ρ ?_;refine wext (vs:=[.string a,.string b]) (v:=.int .i64 (Lib.compareBytes a.data.toList b.data.toList)) (w':=w) ?_ ?_
 ·rw [run_callFunc_extern Tryz.func165 (by kernel_rfl) (by kernel_rfl) (by kernel_rfl) (e:=Extern.BytealgCompare.compare) (by kernel_rfl),Lib.run_compareString];rfl
 refine ρ ?_;exact Jjq ⟨rfl,rfl⟩
theorem Jdk(a b:ByteArray)(w:World): Ret Tryz.prog 111 [.string a,.string b] w λv w'=>v=.int .i64 (Lib.compareBytes a.data.toList b.data.toList)/\w'=w:=by
 refine Jjb Tryz.func111 Tryz.ntmps111 rfl (by kernel_rfl) rfl ?_;refine ρ ?_;refine cl (Jgg a b w) ?_;rintro v w' ⟨rfl,rfl⟩;refine ρ ?_;exact Jjq ⟨rfl,rfl⟩
theorem Jxk(a b:V)(w:World): Ret Tryz.prog 74 [a.val,b.val] w λr w'=>r=.int .i64 (cmpV a b)/\Ext w w':=by
 refine Jjb Tryz.func74 Tryz.ntmps74 rfl (by kernel_rfl) rfl ?_;refine ρ ?_;refine bx ?_;intro w1 b1 hx1 hb1 hk1;refine ρ ?_;refine bx ?_;intro w2 b2 hx2 hb2 hk2;have hk1:=hk1.ext hx2;have hx:=hx1.trans hx2;refine ρ ?_;refine ld (hk1.at rfl) ?_;refine ρ ?_;refine ld (hk2.at rfl) ?_;refine ρ ?_;refine ci (λhk=>?_) (λhk=>?_)
 ·refine ρ ?_;refine ld (hk1.at rfl) ?_;refine ρ ?_;refine ld (hk2.at rfl) ?_;refine ρ ?_;refine cl (Jnl _ _ _) ?_;rintro t w3 ⟨rfl,rfl⟩;refine ρ ?_;refine Jjq ⟨?_,hx⟩;rw [cmpV,if_pos (by simpa using hk)]
 ·refine ρ ?_;refine ld (hk1.at rfl) ?_;refine ρ ?_;refine ld (hk2.at rfl) ?_;refine ρ ?_;refine ci (λhn=>?_) (λhn=>?_)
  ·refine ρ ?_;refine ld (hk1.at rfl) ?_;refine ρ ?_;refine ld (hk2.at rfl) ?_;refine ρ ?_;refine cl (Qwl _ _ _) ?_;rintro t w3 ⟨rfl,rfl⟩;refine ρ ?_;refine Jjq ⟨?_,hx⟩;rw [cmpV,if_neg (by simpa using hk),if_pos (by simpa using hn)]
  ·refine ρ ?_;refine ld (hk1.at rfl) ?_;refine ρ ?_;refine ld (hk2.at rfl) ?_;refine ρ ?_;refine cl (Jdk _ _ _) ?_;rintro t w3 ⟨rfl,rfl⟩;refine ρ ?_;refine Jjq ⟨?_,hx⟩;rw [cmpV,if_neg (by simpa using hk),if_neg (by simpa using hn)];rfl
end Go.Proofs.YtefpailelagbkaaGreatDoor
