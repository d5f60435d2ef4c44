/- Part 0 of the proof: Mem, Idx, Nat4, Of, Rf1, Rf2, Rf3, Rf4. -/
import Derived.Test.YtefpailelagbkaaGreatDoorJ00
import Derived.Test.YtefpailelagbkaaGreatDoorJ01
import Derived.Test.YtefpailelagbkaaGreatDoorJ02
import Derived.Test.YtefpailelagbkaaGreatDoorJ03
import Derived.Test.YtefpailelagbkaaGreatDoorJ04
import Derived.Test.YtefpailelagbkaaGreatDoorJ05
import Derived.Test.YtefpailelagbkaaGreatDoorJ06
import Derived.Test.YtefpailelagbkaaGreatDoorJ07
import Derived.Test.YtefpailelagbkaaGreatDoorJ08
import Derived.Test.YtefpailelagbkaaGreatDoorJ09
import Derived.Test.YtefpailelagbkaaGreatDoorJ10
import Derived.Test.YtefpailelagbkaaGreatDoorJ11
import Derived.Test.YtefpailelagbkaaGreatDoorJ12
import Derived.Test.YtefpailelagbkaaGreatDoorJ13
import Derived.Test.YtefpailelagbkaaGreatDoorJ14
import Derived.Test.YtefpailelagbkaaGreatDoorJ15
import Derived.Test.YtefpailelagbkaaGreatDoorJ16
import Derived.Test.YtefpailelagbkaaGreatDoorJ17
import Derived.Test.YtefpailelagbkaaGreatDoorJ18
import Derived.Test.YtefpailelagbkaaGreatDoorJ19
import Derived.Test.YtefpailelagbkaaGreatDoorJ20
import Derived.Test.YtefpailelagbkaaGreatDoorJ21
import Derived.Test.YtefpailelagbkaaGreatDoorJ22
import Derived.Test.YtefpailelagbkaaGreatDoorJ23
import Derived.Test.YtefpailelagbkaaGreatDoorJ24
import Derived.Test.YtefpailelagbkaaGreatDoorJ25
import Derived.Test.YtefpailelagbkaaGreatDoorJ26
import Derived.Test.YtefpailelagbkaaGreatDoorJ27
import Derived.Test.YtefpailelagbkaaGreatDoorJ28
import Derived.Test.YtefpailelagbkaaGreatDoorJ29
import Derived.Test.YtefpailelagbkaaGreatDoorJ30
import Derived.Test.YtefpailelagbkaaGreatDoorJ31
import Derived.Test.YtefpailelagbkaaGreatDoorJ32
import Derived.Test.YtefpailelagbkaaGreatDoorJ33
import Derived.Test.YtefpailelagbkaaGreatDoorJ34
import Derived.Test.YtefpailelagbkaaGreatDoorJ35
import Derived.Test.YtefpailelagbkaaGreatDoorJ36
import Derived.Test.YtefpailelagbkaaGreatDoorJ37
import Derived.Test.YtefpailelagbkaaGreatDoorJ38
import Derived.Test.YtefpailelagbkaaGreatDoorJ39
import Derived.Test.YtefpailelagbkaaGreatDoorJ40
import Derived.Test.YtefpailelagbkaaGreatDoorJ41
import Derived.Maps.AppendAt
import Derived.ArgAppend
import Derived.Laws.OwnMore
import Derived.Laws.BytesArg
import Derived.OwnWalk
import Derived.Deep.AppendLies
import Derived.Deep.Onto
import Derived.Laws.Cover3
import Derived.Lib.Bytealg
import Derived.ChangeKeysEq
set_option linter.unusedVariables false
set_option maxRecDepth 100000
set_option maxHeartbeats 40000000
namespace Go.Wk
open Go.RowKit
section
variable {w w':World} {sz n:Nat} {A:Option Addr} {cs:List Value}
end
section
variable {w w':World} {g:Nat} {t:TypeId} {cs:List Value}
end
section
variable {P:Program} {n:Nat} {al:AL} {w:World}
end
section
variable {P:Program} {n:Nat} {al:AL} {w:World} {Q:Exit->Act->World->Prop} {ops:Array Oper} {rest:List Oper}
variable {d ty:Nat} {op:Op} {pos:String} {aft:Array Edge} {tt:TT}
theorem Blk.one{w:World}{g:Nat}{t:TypeId}{v:Value}(h:Blk w g t [v]): Rd w 1 (some ⟨g,0,none⟩) 1 [v]:=h.rd (by simp)
end
end Go.Wk
namespace Go.Wk
open Go.RowKit
section
variable {P:Program} {n:Nat} {al:AL} {w:World} {Q:Exit->Act->World->Prop} {ops:Array Oper} {rest:List Oper} {drest:List (Nat×Oper)}
variable {d ty:Nat} {op:Op} {pos:String} {aft:Array Edge} {tt:TT}
theorem run_neb(hT:TOk P tt){t t2:TypeId}{k:TK}{x y:Operand}{p q:Bool}(ht:tk tt t=some k)(hk:k.desc=.bool){a:Act}(ha:Fr n al a)(hx:ev al x=some (.bool p))(hy:ev al y=some (.bool q))(dst:Option Nat)(w:World):
  (execOp a.eval ⟨dst,.binOp .neq t x y t2,ty,pos,aft,none⟩).run P w=.ok (.value (.bool (!(p == q)))) w:=by
 have i:=Jcf hT ht hk rfl;have h:∀ d:Nat,(Op.equalIn (d+1) t (.bool p) (.bool q)).run P w=.ok (p == q) w:=λd=>by simp [Op.equalIn,run_underlying i]
 simp [execOp,ha.ev hx,ha.ev hy,eqGuard,binOp,Op.equal,Op.maxDepth,h 9999]
theorem neb[h:Tab P tt]{t t2:TypeId}{k:TK}{x y:Operand}{p q:Bool}(kk:WL P n ops Q rest ((d,.bool (!(p == q)))::al) w)(ht:tk tt t=some k:=by rfl)(hk:k.desc=.bool:=by rfl)(hx:ev al x=some (.bool p):=by rfl)(hy:ev al y=some (.bool q):=by rfl)(hd:Nat.blt d n=true:=by rfl):
  WL P n ops Q (⟨some d,.binOp .neq t x y t2,ty,pos,aft,none⟩::rest) al w:=wop hd (λa i=>run_neb h.ok ht hk i hx hy (some d) w) kk
end
end Go.Wk
namespace Go.Wk
open Go.RowKit
section
variable {P:Program} {n:Nat} {al:AL} {w:World} {Q:Exit->Act->World->Prop} {ops:Array Oper} {rest:List Oper}
variable {d ty:Nat} {op:Op} {pos:String} {aft:Array Edge} {tt:TT}
end
end Go.Wk
namespace Go.Proofs.YtefpailelagbkaaGreatDoor
open Go.RowKit Pl Go.Wk
attribute [local irreducible] WC WL QX WD WDB
open Go.RowKit Pl Go.Wk
open Go.RowKit Pl Go.Wk
theorem NatV.grown{w w':World}{v:Value}{n:Nat}{g:Option Nat}(h:NatV w v n)(hg:w.grownBy w' g)(hf:∀ ad m c,v=.slice (some ad) m c->some ad.block≠g): NatV w' v n:=by
 obtain ⟨A,c,rfl,o,j,i⟩:=h;exact ⟨A,c,rfl,o,j,Rd.grown i hg (λad e=>Ne.symm (hf ad _ _ (by rw [e])))⟩
open Go.RowKit Pl Go.Wk
end Go.Proofs.YtefpailelagbkaaGreatDoor
namespace Go.Proofs.YtefpailelagbkaaGreatDoor
namespace Pl
end Pl
open Go.RowKit Pl Go.Wk
attribute [local irreducible] WC WL QX WD WDB
open Go.RowKit Pl Go.Wk
attribute [local irreducible] WP
theorem RowX.grown{w w':World}{N:Nat->Prop}{g:Option Nat}{v:Value}{r:List V}(h:RowX w N v r)(hg:w.grownBy w' g)(hN:∀ k,g=some k->N k): RowX w' N v r:=by
 obtain ⟨A,c,C,u,o,j,i⟩:=h;refine ⟨A,c,C,u,o,?_,i⟩;by_cases h0:r=[]
 ·subst h0;exact Rd.nil
 ·exact Rd.grown j hg (λG e D=>i h0 G e (hN _ D))
end Go.Proofs.YtefpailelagbkaaGreatDoor
namespace Go.Proofs.YtefpailelagbkaaGreatDoor
open Pl
open Go.RowKit Pl Go.Wk
attribute [local irreducible] WC WL QX WD WDB WP
def OwnR(w:World)(base:Nat)(v:Value)(ls:List Row): Prop:=∃ ps:List Pr,ls=ps.map (·.2)/\w.ownsRow base 40 1 v ps.length (ps.map (·.1))/\∀ p∈ps,RowX w (own base v) p.1 p.2
theorem OwnR.nil(w:World)(base:Nat): OwnR w base (.slice none 0 0) []:=⟨[],rfl,Jxm _ _ _ _,λp i=>by cases i⟩
theorem OwnR.ext{w w':World}{base:Nat}{v:Value}{ls:List Row}(h:OwnR w base v ls)(hx:Ext w w'): OwnR w' base v ls:=by
 obtain ⟨ps,u,o,j⟩:=h;exact ⟨ps,u,Jjb o hx,λp i=>(j p i).ext hx⟩
theorem OwnR.rows{w:World}{base:Nat}{v:Value}{ls:List Row}(h:OwnR w base v ls)(hm:ls.length<=1100000): RowsV w v ls:=by
 obtain ⟨ps,rfl,i,u⟩:=h;obtain ⟨A,c,rfl,o,_⟩:=Jjd i;exact ⟨ps,A,c,rfl,rfl,o,by simpa using hm,Rd.own i,λp j=>(u p j).v⟩
theorem OwnR.lt{w:World}{base:Nat}{v:Value}{ls:List Row}(h:OwnR w base v ls): ∀ k,v.ownBlock=some k->base<=k/\k<w.heap.size:=by
 obtain ⟨ps,rfl,j,u⟩:=h;obtain ⟨A,c,rfl,o,i⟩:=Jjd j;exact i
theorem appR{P:Program}{n:Nat}{al:AL}{w:World}{Q:Exit->Act->World->Prop}{ops:Array Oper}{rest:List Oper}{d ty:Nat}{pos:String}{aft:Array Edge}{a:World}(hxa:Ext a w){x y:Operand}{v:Value}{ls:List Row}{b:Nat}{vr:Value}{r:Row}(hE:ElT P 35 40 1 24 (.slice none 0 0))(ho:OwnR w a.heap.size v ls)(hb:Blk w b 40 [vr])(hr:RowX w (own a.heap.size v) vr r)(hm:ls.length<=1100000)(kk:∀ v' w',OwnR w' a.heap.size v' (ls++[r])->Ext a w'->w.grownBy w' v.ownBlock->WL P n ops Q rest ((d,v')::al) w')(hx:ev al x=some v:=by rfl)(hy:ev al y=some (.slice (some ⟨b,0,none⟩) 1 1):=by rfl)(hd:Nat.blt d n=true:=by rfl):
  WL P n ops Q (⟨some d,.call { callee:=.builtin .append,args:=#[x,y],argTypes:=#[35,35] },ty,pos,aft,none⟩::rest) al w:=by
 obtain ⟨ps,rfl,h2,Z⟩:=ho;have j:vr.oneCell'=true:=hr.v.one;refine apo hxa hE h2 hb.one (λu U=>by rw [List.mem_singleton.1 U];exact j) (by unfold maxLen;simp at hm;omega) (by simp at hm;omega) ?_ hx hy hd;intro v' w' G C o J;have i:∀ (p:Pr),RowX w (own a.heap.size v) p.1 p.2->RowX w' (own a.heap.size v') p.1 p.2:=λp D=>by
  have h1:=D.mono (N':=λk=>own a.heap.size v k∨own a.heap.size v' k) (λk O h=>by
   rcases h with h|h|h
   ·exact h
   ·exact .inl h
   ·rcases J k h with h4|h4
    ·exact .inr h4
    ·omega)
  obtain ⟨A,c,e1,e2,e3,e4,e5⟩:=h1.grown o (λk O=>.inl (.inr O));exact ⟨A,c,e1,e2,e3,e4,λh0 ad e hn=>e5 h0 ad e (.inr hn)⟩
 refine kk v' w' ⟨ps++[(vr,r)],by simp,?_,λp D=>?_⟩ C o
 ·rw [List.length_append,List.map_append];exact G
 ·rcases List.mem_append.1 D with h'|h'
  ·exact i p (Z p h')
  ·rw [List.mem_singleton.1 h'];exact i (vr,r) hr
open Go.RowKit Pl Go.Wk
open Go.RowKit Pl Go.Wk
theorem RowV.ones{w:World}{ps:List Pr}(h:∀ p∈ps,RowV w p.1 p.2): ∀ u∈ps.map (·.1),u.oneCell'=true:=by
 intro u i;obtain ⟨p,j,rfl⟩:=List.mem_map.1 i;exact (h p j).one
theorem own_fresh{w w0:World}{e sz m:Nat}{v:Value}{xs:List Value}(h:w.ownsRow w0.heap.size e sz v m xs): Fresh w0 v:=λj n c e=>by
 rcases h.2 with ⟨i,_⟩|⟨g,cap,cur,i,hb,_⟩
 ·rw [i]at e;cases e
 ·rw [i]at e;injection e with e _ _;injection e with e;subst e;exact hb
theorem refPut_any{v vr vd:Value}{l:List Row}{r:Row}{ds:List Bool}{w:World}(hl:RowsV w v l)(hr:RowV w vr r)(hd:BoolsV w vd ds)(hlt:Lt ds l)(hlen:l.length<=1000000):
  Ret Tryz.prog 93 [v,vr,vd] w λx w'=>RowsV w' x (Xkv ds l r)/\Ext w w'/\(x=v∨Fresh w x):=by
 obtain ⟨ps,A,c,rfl,rfl,h3,h4,h5,h6⟩:=id hl;have hn:ps.length<=1000000:=by simpa using hlen
 obtain ⟨B,bc,ab,ak,aj,ai⟩:=id hr;refine Jjc Tryz.func93 Tryz.ntmps93 rfl (by kernel_rfl) rfl ?_;refine ρ ?_;refine Jqw (λk=>[(0,.slice A ps.length c),(1,vr),(2,vd),(7,.int .i64 ((k:Nat):Int))])
  (λk w'=>Ext w w'/\k<=ps.length/\∀ i,i<k->Jxg ((ps.map (·.2)).getD i []) r ds<0) (λk=>ps.length-k) 0 sB ⟨Ext.refl w,Nat.zero_le _,λi hi=>by omega⟩ ?_
 rintro k w1 ⟨C,hk,D⟩;refine ρ ?_;refine Jwr (fun (t:Bool)=>[(0,.slice A ps.length c),(1,vr),(2,vd),(7,.int .i64 ((k:Nat):Int)),(22,.bool t)])
  (λt w2=>Ext w1 w2/\t=decide (k<ps.length/\Jxg ((ps.map (·.2)).getD k []) r ds<0)) ?_ ?_
 ·refine ki 13 (λh=>?_) (λh=>?_)
  ·have hlt:k<ps.length:=by have:=oT h;omega
   refine ρ ?_;refine ix k (h5.ext C) hlt ?_;refine ρ ?_;refine ld ((h5.ext C).cell (Jtk hlt)) ?_;refine ρ ?_;refine cl (Qyn ((h6 _ (getD_mem' z0 ps hlt)).ext C) (hr.ext C) (hd.ext C)) ?_;rintro x w2 ⟨⟨cc,rfl,ag,ah⟩,a2⟩;refine ρ ?_;refine Jjn _ sB ⟨a2,?_⟩;rw [Bool.eq_iff_iff,decide_eq_true_iff,decide_eq_true_iff,ag,Qwm];exact ⟨λh=>⟨hlt,h⟩,λh=>h.2⟩
  ·have hlt:¬ k<ps.length:=by have:=oF h;omega
   refine ρ ?_;exact Jjn false sB ⟨Ext.refl _,(dF (λh=>hlt h.1)).symm⟩
 rintro t w2 ⟨a2,rfl⟩;have j:=C.trans a2;refine ρ ?_;refine ci (λh=>?_) (λh=>?_)
 ·obtain ⟨hlt,hc⟩:=oT h;refine ρ ?_;refine Jjx (k+1) sB ⟨j,by omega,λi hi=>?_⟩ (by omega);by_cases e:i=k
  ·rw [e];exact hc
  ·exact D i (by omega)
 have a3:=oF h;obtain ⟨a8,Z⟩:=rank_at hlt (r:=r) (k:=k) (by simpa using hk) (by
  by_cases h0:k=0
  ·exact .inl h0
  ·exact .inr (D (k-1) (by omega))) (by
  by_cases h0:k<ps.length
  ·exact .inr (λh'=>a3 ⟨h0,h'⟩)
  ·exact .inl (by simp;omega))
 refine ρ ?_;refine Jwr (fun (t:Bool)=>[(0,.slice A ps.length c),(1,vr),(7,.int .i64 ((k:Nat):Int)),(36,.bool t)])
  (λt w3=>Ext w2 w3/\t=decide (r∈ps.map (·.2))) ?_ ?_
 ·refine ki 29 (λh=>?_) (λh=>?_)
  ·have hlt:k<ps.length:=by have:=oT h;omega
   refine ρ ?_;refine ix k (h5.ext j) hlt ?_;refine ρ ?_;refine ld ((h5.ext j).cell (Jtk hlt)) ?_;refine ρ ?_;refine cl (Xxt ((h6 _ (getD_mem' z0 ps hlt)).ext j) (hr.ext j)) ?_;rintro x w3 ⟨rfl,a1⟩;refine ρ ?_;refine Jjn _ sB ⟨a1,?_⟩;rw [Bool.eq_iff_iff,decide_eq_true_iff,decide_eq_true_iff,Z,Qwm];exact ⟨λh=>⟨by simpa using hlt,h⟩,λh=>h.2⟩
  ·have hlt:¬ k<ps.length:=by have:=oF h;omega
   refine ρ ?_;refine Jjn false sB ⟨Ext.refl _,(dF (λh=>?_)).symm⟩;have:=(Z.1 h).1;simp at this;omega
 rintro t w3 ⟨a1,rfl⟩;have o:=j.trans a1;refine ρ ?_;refine ci (λh=>?_) (λh=>?_)
 ·have a4:=oT h;refine ρ ?_;refine Jjr ⟨?_,o,.inl rfl⟩;unfold Xkv;rw [if_pos a4];exact hl.ext o
 have a4:=oF h;have U:=RowV.ones h6;refine ρ ?_;refine bsl Xqt ?_;intro w4 b aa an ae;have O:=o.trans aa;refine ρ ?_;refine slh k ?_;refine ρ ?_;refine apo (a:=w) O ER (ae.own (n:=0) (by have:=o.size;omega) rfl (Nat.zero_le _)) ((h5.ext O).take (m:=k) hk) (λu hu=>U u (List.mem_of_mem_take hu)) (by unfold maxLen;omega) (by omega) ?_;intro v5 w5 a7 a9 _ _;rw [Nat.mul_one]at a7;refine ρ ?_;refine bsl (λw=>Xvq vr w B _ bc ab) ?_;intro w6 b6 a6 am ad;refine ρ ?_;refine apo (a:=w) (a9.trans a6) ER (Jjb a7 a6) ad.one (λu hu=>by rw [List.mem_singleton.1 hu];exact hr.one) (by unfold maxLen;omega) (by omega) ?_;intro v7 w7 ac a5 _ _;refine ρ ?_;refine sll k ?_;refine ρ ?_;refine apo (a:=w) a5 ER ac ((h5.ext a5).drop (k:=k) (c:=c) hk h3) (λu hu=>U u (List.mem_of_mem_drop hu)) (by unfold maxLen;omega) (by omega) ?_;intro v8 w8 J G _ _;rw [Nat.mul_one]at J;refine ρ ?_;refine Jjr ⟨?_,G,.inr (own_fresh J)⟩
 have e0:Xkv ds (ps.map (·.2)) r=(ps.take k++[(vr,r)]++ps.drop k).map (·.2):=by
  unfold Xkv;rw [if_neg a4,a8];simp
 have el:(ps.take k++[(vr,r)]++ps.drop k).length=0+k+1+(ps.length-k):=by simp;omega
 have ec:(ps.take k++[(vr,r)]++ps.drop k).map (·.1)=[]++(ps.map (·.1)).take k++[vr]++(ps.map (·.1)).drop k:=by simp
 rw [e0];obtain ⟨A8,c8,rfl,af,_⟩:=Jjd J;refine ⟨_,A8,c8,rfl,by rw [el],by rw [el];exact af,by rw [el];omega,by rw [el,ec];exact Rd.own J,λp D=>?_⟩;simp only [List.mem_append,List.mem_singleton]at D;rcases D with (D|D)|D
 ·exact (h6 p (List.mem_of_mem_take D)).ext G
 ·rw [D];exact hr.ext G
 ·exact (h6 p (List.mem_of_mem_drop D)).ext G
end Go.Proofs.YtefpailelagbkaaGreatDoor
namespace Go.Wk
open Go.RowKit
section
variable {P:Program} {n:Nat} {al:AL} {w:World} {Q:Exit->Act->World->Prop} {ops:Array Oper} {rest:List Oper} {d ty:Nat} {pos:String} {aft:Array Edge}
theorem sr32g{x y:Operand}{t yt:TypeId}{k2:IntKind}{s v:Nat}(hv:v<=32)(kk:WL P n ops Q rest ((d,.int .u32 ((s / 2^v:Nat):Int))::al) w)(hx:ev al x=some (.int .u32 (s:Int)):=by rfl)(hy:ev al y=some (.int k2 (v:Int)):=by rfl)(hd:Nat.blt d n=true:=by rfl):
  WL P n ops Q (⟨some d,.binOp .shr t x y yt,ty,pos,aft,none⟩::rest) al w:=by
 rw [<-Qff s v hv]at kk;exact wop hd (λa i=>Xjf hx hy (by omega) i (some d) w) kk
theorem sl32g{y:Operand}{t yt:TypeId}{k2:IntKind}{v:Nat}(hv:v<32)(kk:WL P n ops Q rest ((d,.int .u32 ((2^v:Nat):Int))::al) w)(hy:ev al y=some (.int k2 (v:Int)):=by rfl)(hd:Nat.blt d n=true:=by rfl):
  WL P n ops Q (⟨some d,.binOp .shl t (.const (.int .u32 1)) y yt,ty,pos,aft,none⟩::rest) al w:=by
 rw [<-Jhn hv]at kk;exact wop hd (λa i=>Jpx (x:=.const (.int .u32 1)) rfl hy (by omega) i (some d) w) kk
end
end Go.Wk
namespace Go.Proofs.YtefpailelagbkaaGreatDoor
open Go.RowKit Pl Go.Wk
attribute [local irreducible] WC WL QX WD WDB WP WN WG WH
theorem IntsV.n{w:World}{v:Value}{l:List Nat}(h:IntsV w v (nz l)): ∃ A c,v=.slice A l.length c/\l.length<=c/\l.length<=1100000/\Rd w 1 A l.length (Jkg (nz l)):=by
 obtain ⟨A,c,u,o,j,i⟩:=h;rw [Jqp]at u o j i;exact ⟨A,c,u,o,j,i⟩
theorem rHas_any{s v:Nat}(hs:s<4294967296)(hv:v<=32)(w:World): Ret Tryz.prog 183 [.int .u32 (s:Int),.int .i64 (v:Int)] w λu w'=>u=.bool (s.testBit v)/\w'=w:=by
 refine Jjc Tryz.func183 Tryz.ntmps183 rfl (by kernel_rfl) rfl ?_;refine ρ ?_;refine Go.Wk.kv 7 (congrArg (λz=>Value.int .u64 z) (Xxr (z:=(v:Int)) (by omega))) ?_;refine sr32g (s:=s) (v:=v) hv ?_;refine ρ ?_;rw [Jkh hs];exact Jjr ⟨rfl,rfl⟩
theorem rSet_any{l:List Nat}{v:Value}{w:World}(h:IntsV w v (nz l))(hl:∀ u∈l,u<32): Ret Tryz.prog 184 [v] w λu w'=>u=.int .u32 (Jxq l:Int)/\w'=w:=by
 obtain ⟨A,c,rfl,hc,Z,D⟩:=h.n;refine Jjc Tryz.func184 Tryz.ntmps184 rfl (by kernel_rfl) rfl ?_;refine ρ ?_;refine Jqw (fun (i:Nat)=>[(0,.slice A l.length c),(3,.int .u32 (Jxq (l.take i):Int)),(4,.int .i64 (i:Int))])
  (λi w'=>i<=l.length/\w'=w) (λi=>l.length-i) 0 sB ⟨Nat.zero_le _,rfl⟩ ?_
 rintro i U ⟨hi,rfl⟩;refine ρ ?_;refine ci (λh=>?_) (λh=>?_)
 ·have o:i<l.length:=by have:=oT h;omega
  clear h;have j:=hl _ (getD_mem' 0 l o);refine ρ ?_;refine ix i D o ?_;refine ρ ?_;refine ld (D.cell (Jzc o)) ?_;refine ρ ?_;refine Go.Wk.kv 16 (congrArg (λz=>Value.int .u64 z) (Xxr (z:=(l.getD i 0:Int)) (by omega))) ?_;refine sl32g (v:=l.getD i 0) j ?_;refine ρ ?_;have e:Jxq (l.take (i+1))=Jxq (l.take i) ||| 2^l.getD i 0:=by rw [Jjp 0 o];exact Qbz _ _ _
  have O:Jxq (l.take i)<4294967296:=Jmd (n:=32) λv G=>hl v (List.mem_of_mem_take G);have J:=Jfn O (Jvl j);rw [J,<-e];exact Jjx (i+1) sO ⟨o,rfl⟩ (by omega)
 ·have C:i=l.length:=by have:=oF h;omega
  subst C;clear h;refine ρ ?_;rw [List.take_length];exact Jjr ⟨rfl,rfl⟩
theorem rProject_any{vars:List Nat}{s:Nat}{r:Row}{rv vv:Value}{w:World}(hr:RowV w rv r)(hv:IntsV w vv (nz vars))(hs:s<4294967296)(hl:∀ u∈vars,u<32)(hrl:r.length=vars.length):
  Ret Tryz.prog 185 [rv,vv,.int .u32 (s:Int)] w λu w'=>RowV w' u (pmR (Jqx vars s) r)/\Ext w w':=by
 obtain ⟨A,c,rfl,hc,hm,hR⟩:=id hr;obtain ⟨B,d,rfl,hd,a9,hV⟩:=hv.n;refine Jjc Tryz.func185 Tryz.ntmps185 rfl (by kernel_rfl) rfl ?_;refine ρ ?_;refine bsl Qlh ?_;intro w0 b0 Z a6 a7;refine ρ ?_;refine Jqb (fun (k:Nat) (G:Value)=>[(0,.slice A r.length c),(1,.slice B vars.length d),(2,.int .u32 (s:Int)),(7,G),(8,.int .i64 (k:Int))])
  (λk G w'=>k<=vars.length/\Ext w w'/\Qzv w' w.heap.size G (pmR (Jyb vars s k) r)) (λk _=>vars.length-k) 0 (.slice (some ⟨b0,0,none⟩) 0 0) sB
  ⟨Nat.zero_le _,Z,a7.own (n:=0) a6 rfl (Nat.zero_le _)⟩ ?_
 rintro k G w1 ⟨hk,o,D⟩;refine ρ ?_;refine ci (λh=>?_) (λh=>?_)
 ·have lk:k<vars.length:=by have:=oT h;omega
  clear h;have O:RdR w1 A r:=Rd.ext hR o;have J:=hl _ (getD_mem' 0 vars lk);have a4:(Jyb vars s k).length<=k:=by
   have:=List.length_filter_le (λi=>s.testBit (vars.getD i 0)) (List.range k);rw [List.length_range]at this;exact this
  refine ρ ?_;refine ix k (hV.ext o) lk ?_;refine ρ ?_;refine ld ((hV.ext o).cell (Jzc lk)) ?_;refine ρ ?_;refine cl (rHas_any hs (Nat.le_of_lt J) w1) ?_;rintro _ U ⟨rfl,e1⟩;rw [e1];clear e1 U;refine ρ ?_;refine ci (λh=>?_) (λh=>?_)
  ·refine ρ ?_;refine ixq 3 k O (by omega) ?_;refine ρ ?_;refine lds (cs:=(r.getD k V0).cells) (λj u hu=>RdR.cell O (by omega) hu) ?_;refine ρ ?_;refine bsl (Xqs _) ?_;intro w2 b C hb hB;refine ρ ?_;refine apb (m':=1) (news:=(r.getD k V0).cells) EV (Jjb D C) (hB.rd (n:=1) rfl) (V.one _) (by rw [Jxb];unfold maxLen;omega) (by rw [Jxb];omega) (o.trans C).size ?_;intro v3 w3 a1 a3 a8;refine ρ ?_;refine Jjm (k+1) v3 sO ⟨lk,Jjk (o.trans C) a3 (Jyx (Jjb D C)),?_⟩ (by omega);have e:pmR (Jyb vars s (k+1)) r=pmR (Jyb vars s k) r++[r.getD k V0]:=by rw [Jkc,if_pos h];simp [pmR]
   rw [Qzv,e,List.length_append,rowC_app',rowC_one''];exact a1
  ·refine ρ ?_;refine Jjm (k+1) G sO ⟨lk,o,?_⟩ (by omega);rw [Jkc,if_neg (by rw [h];simp),List.append_nil];exact D
 ·have a2:k=vars.length:=by have:=oF h;omega
  rw [a2]at D;have a4:(Jyb vars s vars.length).length<=vars.length:=by
   have:=List.length_filter_le (λi=>s.testBit (vars.getD i 0)) (List.range vars.length);rw [List.length_range]at this;exact this
  obtain ⟨A3,c3,rfl,a5,_⟩:=Jjd D;refine ρ ?_;refine Jjr ⟨⟨A3,c3,rfl,a5,?_,Rd.own D⟩,o⟩;show (pmR (Jyb vars s vars.length) r).length<=_;rw [Jxb];omega
theorem rList_any{s:Nat}(hs:s<4294967296)(w:World): Ret Tryz.prog 160 [.int .u32 (s:Int)] w λu w'=>IntsV w' u (nz (bk s 32))/\Ext w w':=by
 refine Jjc Tryz.func160 Tryz.ntmps160 rfl (by kernel_rfl) rfl ?_;refine ρ ?_;refine Jqb (fun (k:Nat) (C:Value)=>[(0,.int .u32 (s:Int)),(3,C),(4,.int .i64 (k:Int))])
  (λk C w'=>k<=32/\Ext w w'/\Jnh w' w.heap.size C (bk s k)) (λk _=>32-k) 0 (.slice none 0 0) sB
  ⟨Nat.zero_le _,Ext.refl _,Jxm _ _ _ _⟩ ?_
 rintro k C w1 ⟨hk,j,o⟩;refine ρ ?_;refine ci (λh=>?_) (λh=>?_)
 ·have lk:k<32:=by have:=oT h;omega
  clear h;have U:=Jvz s k;refine ρ ?_;refine cl (rHas_any hs hk w1) ?_;rintro _ D ⟨rfl,e1⟩;rw [e1];clear e1 D;refine ρ ?_;refine ci (λh=>?_) (λh=>?_)
  ·refine ρ ?_;refine bsl (bs1Int'' _) ?_;intro w2 b i hb hB;refine ρ ?_;refine apI (Jjb o i) hB (by omega) (j.trans i).size ?_;intro v3 w3 G O a1;refine ρ ?_;refine Jjm (k+1) v3 sO ⟨lk,Jjk (j.trans i) O (Jyx (Jjb o i)),?_⟩ (by omega);rw [Jyp,if_pos h];exact G
  ·refine ρ ?_;refine Jjm (k+1) C sO ⟨lk,j,?_⟩ (by omega);rw [Jyp,if_neg (by rw [h];simp),List.append_nil];exact o
 ·have J:k=32:=by have:=oF h;omega
  rw [J]at o;have U:=Jvz s 32;obtain ⟨A3,c3,rfl,Z,_⟩:=Jjd o;refine ρ ?_;exact Jjr ⟨⟨A3,c3,by rw [Jqp],by rw [Jqp];exact Z,by rw [Jqp];omega,by rw [Jqp];exact Rd.own o⟩,j⟩
open Go.RowKit Pl Go.Wk
theorem RInM.ext{w w':World}{VA RA:Option Addr}{m:Nat}{vars:Nat->List Nat}{rs:Nat->List Row}(h:RInM w VA RA m vars rs)(hx:Ext w w'): RInM w' VA RA m vars rs:=by
 obtain ⟨cs,G,D⟩:=h.v;obtain ⟨ds,C,o⟩:=h.r;exact ⟨⟨cs,G.ext hx,λi hi=>by obtain ⟨u,e,j⟩:=D i hi;exact ⟨u,e,j.ext hx⟩⟩,⟨ds,C.ext hx,λi hi=>by obtain ⟨u,e,j⟩:=o i hi;exact ⟨u,e,j.ext hx⟩⟩⟩
def rinC(n f:Int)(pA:Option Addr)(pn pc:Nat)(VA:Option Addr)(vc:Nat)(RA:Option Addr)(rc m:Nat): List Value:=[.int .i64 n,.int .i64 f,.slice pA pn pc,.slice VA m vc,.slice RA m rc]
def fit1(vars:Nat->List Nat)(rs:Nat->List Row)(vl:List Nat)(r:Row)(i:Nat)(x:Row): Bool:=decide (pmR (Jqx (vars i) (Jxq vl &&& Jxq (vars i))) x=pmR (Jqx vl (Jxq vl &&& Jxq (vars i))) r)
section
variable {n f:Int} {pA VA RA:Option Addr} {pn pc vc rc N m:Nat} {vars:Nat->List Nat} {rs:Nat->List Row} {w:World}
theorem rFits_any(hP:RefP N m vars rs)(hM:RInM w VA RA m vars rs){vl:List Nat}{r:Row}{vv rv:Value}(hv:IntsV w vv (nz vl))(hr:RowV w rv r)(hvl:∀ u∈vl,u<32)(hrl:r.length=vl.length):
  Ret Tryz.prog 162 [.agg (rinC n f pA pn pc VA vc RA rc m).toArray,rv,vv] w λu w'=>u=.bool (fitB m vars rs vl r)/\Ext w w':=by
 have b4:=hP.m32;refine Jjc Tryz.func162 Tryz.ntmps162 rfl (by kernel_rfl) rfl ?_;refine ρ ?_;refine bx (cs:=rinC n f pA pn pc VA vc RA rc m) ?_;intro w1 b D hb hB;refine ρ ?_;refine cl (rSet_any (hv.ext D) hvl) ?_;rintro _ ak ⟨rfl,e1⟩;rw [e1];clear e1 ak;refine ρ ?_;refine Jqw (fun (i:Nat)=>[(1,rv),(2,vv),(3,.pointer (some ⟨b,0,none⟩)),(7,.int .u32 (Jxq vl:Int)),(8,.int .i64 (i:Int))])
  (λi w'=>i<=m/\Ext w1 w'/\(List.range i).all (λi=>(rs i).any (fit1 vars rs vl r i))=true) (λi=>m-i) 0 sB ⟨Nat.zero_le _,Ext.refl _,rfl⟩ ?_
 rintro i w2 ⟨hi,o,a3⟩;have aa:=hB.ext o;refine ρ ?_;refine ld (aa.at (i:=3) rfl) ?_;refine ρ ?_;refine ci (λh=>?_) (λh=>?_)
 ·have Z:i<m:=by have:=oT h;omega
  clear h;obtain ⟨b1,a1,ar⟩:=(hM.ext (D.trans o)).v;obtain ⟨b3,a6,au⟩:=(hM.ext (D.trans o)).r;obtain ⟨vi,ac,ag⟩:=ar i Z;obtain ⟨ri,ad,az⟩:=au i Z;have G:∀ u∈vars i,u<32:=λu hu=>by have:=hP.lt i Z u hu;have:=hP.n32;omega
  refine ρ ?_;refine ld (aa.at (i:=3) rfl) ?_;refine ρ ?_;refine ix i a1 Z ?_;refine ρ ?_;refine ld (a1.cell ac) ?_;refine ρ ?_;refine cl (rSet_any ag G) ?_;rintro _ aj ⟨rfl,e2⟩;rw [e2];clear e2 aj;have af:Jxq vl<4294967296:=Jmd (n:=32) hvl;have ax:Jxq (vars i)<4294967296:=Jmd (n:=32) G;refine ρ ?_;have a2:bits .and .u32 (Jxq vl:Int) (Jxq (vars i):Int)=((Jxq vl &&& Jxq (vars i):Nat):Int):=u32_and_nat _ _ af ax;have ae:Jxq vl &&& Jxq (vars i)<4294967296:=Nat.lt_of_le_of_lt Nat.and_le_left af;rw [a2];clear a2;refine cl (rProject_any (hr.ext (D.trans o)) (hv.ext (D.trans o)) ae hvl hrl) ?_;rintro wv w3 ⟨aq,ap⟩;refine ρ ?_;refine Jqb (fun (k:Nat) (U:Bool)=>[(1,rv),(2,vv),(3,.pointer (some ⟨b,0,none⟩)),(7,.int .u32 (Jxq vl:Int)),(8,.int .i64 (i:Int)),(9,.int .u32 ((Jxq vl &&& Jxq (vars i):Nat):Int)),(10,wv),(11,.bool U),(12,.int .i64 (k:Int))])
   (λk U w'=>k<=(rs i).length/\Ext w3 w'/\U=((rs i).take k).any (fit1 vars rs vl r i)) (λk _=>(rs i).length-k) 0 false sB ⟨Nat.zero_le _,Ext.refl _,rfl⟩ ?_
  rintro k U w4 ⟨hk,a5,O⟩;have j:=ap.trans a5;have a9:=aa.ext j;obtain ⟨TA,tc,rfl,b6,b5,b2,ah,ay⟩:=(az.ext j).parts;refine ρ ?_;refine ld (a9.at (i:=4) rfl) ?_;refine ρ ?_;refine ix i (a6.ext j) Z ?_;refine ρ ?_;refine ld ((a6.ext j).cell ad) ?_;refine ρ ?_;have next:(rs i).any (fit1 vars rs vl r i)=true->(List.range (i+1)).all (λi=>(rs i).any (fit1 vars rs vl r i))=true:=λh=>by
   rw [List.range_succ,List.all_append,a3];simp [h]
  refine ki 42 (λh=>?_) (λh=>?_)
  ·have lk:k<(rs i).length:=by have:=oT h;omega
   clear h;refine ρ ?_;refine ci (λh=>?_) (λh=>?_)
   ·have a8:U=false:=by cases U<;>first|rfl|cases h
    subst a8;obtain ⟨xv,an,ao⟩:=ay k lk;have am:=hP.len i Z _ (getD_mem' [] (rs i) lk);have C:Ext w4 w4.drew:=(Ext.refl w4).drew;have J:=j.trans C;refine ρ ?_;refine dr [(0,0),(0,1),(0,2),(0,3),(0,4),(0,5),(0,6),(0,7),(0,8),(0,9),(0,10),(0,11),(0,12),(0,13),(0,15),(1,14),(1,16),(0,17)] (by kernel_rfl) ?_;have ai:=(a6.ext J);refine ρd ?_;refine dld ((a9.ext C).at (i:=4) rfl) ?_;refine ρd ?_;refine dix i ai Z ?_;refine ρd ?_;refine dld (ai.cell ad) ?_;refine ρd ?_;refine dix k (ah.ext C) lk ?_;refine ρd ?_;refine dld ((ah.ext C).cell an) ?_;refine ρd ?_;refine dld ((a9.ext C).at (i:=3) rfl) ?_;refine ρd ?_;refine dix i (a1.ext J) Z ?_;refine ρd ?_;refine dld ((a1.ext J).cell ac) ?_;refine ρd ?_;refine dcl (rProject_any (ao.ext C) (ag.ext J) ae G am) ?_;rintro pv w5 ⟨av,a4⟩;refine ⟨a4,?_⟩;refine ρd ?_;refine dcl (Xxt av (aq.ext ((a5.trans C).trans a4))) ?_;rintro _ w6 ⟨rfl,ab⟩;refine ⟨ab,?_⟩
    refine ρd ?_;refine ρ ?_;refine Jjm (k+1) (fit1 vars rs vl r i ((rs i).getD k [])) sO ⟨lk,((a5.trans C).trans a4).trans ab,?_⟩ (by omega);rw [Jjp [] lk,List.any_append,<-O];simp
   ·have a7:U=true:=by cases U<;>first|rfl|cases h
    subst a7;refine ρ ?_;refine Jjx (i+1) sO ⟨Z,o.trans j,next ?_⟩ (by omega);rw [<-List.take_append_drop k (rs i),List.any_append,<-O];rfl
  ·have lk:k=(rs i).length:=by have:=oF h;omega
   clear h;rw [lk,List.take_length]at O;refine ρ ?_;refine ci (λh=>?_) (λh=>?_)
   ·have a8:U=false:=by cases U<;>first|rfl|cases h
    refine ρ ?_;refine Jjr ⟨?_,(D.trans o).trans j⟩;congr 1
    symm
    refine Bool.eq_false_iff.2 λhc=>?_;have:=List.all_eq_true.1 hc i (List.mem_range.2 Z);rw [a8]at O;exact Bool.false_ne_true (O.trans this)
   ·have a7:U=true:=by cases U<;>first|rfl|cases h
    refine ρ ?_;exact Jjx (i+1) sO ⟨Z,o.trans j,next (by rw [<-O];exact a7)⟩ (by omega)
 ·have aw:i=m:=by have:=oF h;omega
  subst aw;refine ρ ?_;exact Jjr ⟨congrArg Value.bool a3.symm,D.trans o⟩
end
open Go.RowKit Pl Go.Wk
theorem EVv: ElT Tryz.prog 39 71 3 32 (.agg #[.int .i64 0,.int .i64 0,.string ⟨#[]⟩]):=⟨Tryz.underlying39,info_parts (by kernel_rfl),rfl,by decide⟩
theorem bs1VVs(v:V)(w:World): (Instr.buildSlice 39 1 #[(0,v.val)]).run Tryz.prog w=.ok (.slice (some ⟨w.heap.size,0,none⟩) 1 1) (w.alloc (.cells v.cells.toArray 71)):=by kernel_rfl
theorem Blk.rowV{w:World}{b t:Nat}{v:V}(h:Blk w b t v.cells): RowV w (.slice (some ⟨b,0,none⟩) 1 1) [v]:=⟨some ⟨b,0,none⟩,1,rfl,Nat.le_refl _,by simp,by
 have:=h.rd (n:=1) (sz:=3) rfl;unfold RdR;rw [rowC_one''];exact this⟩
def enI(vars:Nat->List Nat)(rs:Nat->List Row)(v i:Nat): List Row:=(List.range (vars i).length).flatMap λk=>if (vars i).getD k 0=v then (rs i).map λr=>[r.getD k V0] else []
def enD(vars:Nat->List Nat)(rs:Nat->List Row)(v i k:Nat): List Row:=(List.range i).flatMap (enI vars rs v)++(List.range k).flatMap λk=>if (vars i).getD k 0=v then (rs i).map λr=>[r.getD k V0] else []
def putF(D:List Row): List Row:=D.foldl (Xkv []) []
theorem putF_set(D:List Row): Jvg [] D (putF D):=by
 have:=Jlv (ds:=[]) D (done:=[]) (l:=[]) ⟨List.Pairwise.nil,λx=>Iff.rfl⟩;rwa [List.nil_append]at this
theorem putF_snoc(D:List Row)(r:Row): putF (D++[r])=Xkv [] (putF D) r:=by simp [putF]
theorem putF_len(D:List Row)(r:Row): (putF (D++[r])).length<=(putF D).length+1:=by
 rw [putF_snoc];unfold Xkv;split
 ·omega
 ·have:=Xvh [] (putF D) r;simp;omega
section
variable {n f:Int} {pA VA RA:Option Addr} {pn pc vc rc N m:Nat} {vars:Nat->List Nat} {rs:Nat->List Row} {w:World}
theorem rValues_any(hP:RefP N m vars rs)(hM:RInM w VA RA m vars rs)(v:Nat):
  Ret Tryz.prog 161 [.agg (rinC n f pA pn pc VA vc RA rc m).toArray,.int .i64 (v:Int)] w λu w'=>(RowV w' u (Xzz m vars rs v)/\(Xzz m vars rs v).length<=10240)/\Ext w w':=by
 have be:=hP.m32;refine Jjc Tryz.func161 Tryz.ntmps161 rfl (by kernel_rfl) rfl ?_;refine ρ ?_;refine bx (cs:=rinC n f pA pn pc VA vc RA rc m) ?_;intro w1 b a9 hb hB;refine ρ ?_;refine Jqb (fun (i:Nat) (lv:Value)=>[(1,.int .i64 (v:Int)),(2,.pointer (some ⟨b,0,none⟩)),(5,lv),(6,.int .i64 (i:Int))])
  (λi lv w'=>i<=m/\Ext w1 w'/\RowsV w' lv (putF ((List.range i).flatMap (enI vars rs v)))/\(putF ((List.range i).flatMap (enI vars rs v))).length<=320*i) (λi _=>m-i) 0 (.slice none 0 0) sB
  ⟨Nat.zero_le _,Ext.refl _,⟨[],none,0,rfl,rfl,Nat.le_refl _,Nat.zero_le _,Rd.nil,λp hp=>by cases hp⟩,Nat.le_refl _⟩ ?_
 rintro i lv w2 ⟨hi,a8,o,J⟩;have an:=hB.ext a8;refine ρ ?_;refine ld (an.at (i:=3) rfl) ?_;refine ρ ?_;refine ci (λh=>?_) (λh=>?_)
 ·have U:i<m:=by have:=oT h;omega
  clear h;have aa:∀ u∈vars i,u<32:=λu hu=>by have:=hP.lt i U u hu;have:=hP.n32;omega
  have ai:=Jsl (hP.asc i U) aa;have ba:=hP.row i U;refine ρ ?_;refine Jqb (fun (k:Nat) (lv:Value)=>[(1,.int .i64 (v:Int)),(2,.pointer (some ⟨b,0,none⟩)),(5,lv),(6,.int .i64 (i:Int)),(7,.int .i64 (k:Int))])
   (λk lv w'=>k<=(vars i).length/\Ext w2 w'/\RowsV w' lv (putF (enD vars rs v i k))/\(putF (enD vars rs v i k)).length<=320*i+10*k) (λk _=>(vars i).length-k) 0 lv sB
   ⟨Nat.zero_le _,Ext.refl _,by unfold enD;simpa using o,by unfold enD;simpa using J⟩ ?_
  clear o J lv;rintro k lv w3 ⟨hk,C,o,J⟩;have Z:=a8.trans C;have ad:=an.ext C;obtain ⟨bb,a4,ar⟩:=(hM.ext (a9.trans Z)).v;obtain ⟨vi,aj,b7⟩:=ar i U;obtain ⟨PA,bd,rfl,bi,bg,am⟩:=b7.n;refine ρ ?_;refine ld (ad.at (i:=3) rfl) ?_;refine ρ ?_;refine ix i a4 U ?_;refine ρ ?_;refine ld (a4.cell aj) ?_;refine ρ ?_;refine ci (λh=>?_) (λh=>?_)
  ·have lk:k<(vars i).length:=by have:=oT h;omega
   clear h;refine ρ ?_;refine ld (ad.at (i:=3) rfl) ?_;refine ρ ?_;refine ix i a4 U ?_;refine ρ ?_;refine ld (a4.cell aj) ?_;refine ρ ?_;refine ix k am lk ?_;refine ρ ?_;refine ld (am.cell (Jzc lk)) ?_;refine ρ ?_;have O:∀ D,enD vars rs v i (k+1)=D->D=enD vars rs v i k++(if (vars i).getD k 0=v then (rs i).map λr=>[r.getD k V0] else []):=λD hD=>by
    rw [<-hD];unfold enD;rw [List.range_succ,List.flatMap_append,List.append_assoc];simp
   have O:=O _ rfl;refine ci (λh=>?_) (λh=>?_)
   ·have ay:(vars i).getD k 0≠v:=λe=>by have:=Jwp h;omega
    rw [if_neg ay,List.append_nil]at O;refine ρ ?_;refine Jjm (k+1) lv sO ⟨lk,C,by rw [O];exact o,by rw [O];omega⟩ (by omega)
   ·have he:(vars i).getD k 0=v:=by have:=Jwq h;omega
    rw [if_pos he]at O;clear h;refine ρ ?_;refine Jqb (fun (j:Nat) (lv:Value)=>[(1,.int .i64 (v:Int)),(2,.pointer (some ⟨b,0,none⟩)),(5,lv),(6,.int .i64 (i:Int)),(7,.int .i64 (k:Int)),(8,.int .i64 (j:Int))])
     (λj lv w'=>j<=(rs i).length/\Ext w3 w'/\RowsV w' lv (putF (enD vars rs v i k++((rs i).take j).map λr=>[r.getD k V0]))/\(putF (enD vars rs v i k++((rs i).take j).map λr=>[r.getD k V0])).length<=320*i+10*k+j) (λj _=>(rs i).length-j) 0 lv sB
     ⟨Nat.zero_le _,Ext.refl _,by simpa using o,by simpa using J⟩ ?_
    clear o J lv;rintro j lv w4 ⟨hj,G,o,J⟩;have ah:=Z.trans G;have a6:=ad.ext G;obtain ⟨bc,a5,aw⟩:=(hM.ext (a9.trans ah)).r;obtain ⟨ri,ak,b8⟩:=aw i U;obtain ⟨TA,tc,rfl,av,au,ao,a2,ac⟩:=b8.parts;refine ρ ?_;refine ld (a6.at (i:=4) rfl) ?_;refine ρ ?_;refine ix i a5 U ?_;refine ρ ?_;refine ld (a5.cell ak) ?_;refine ρ ?_;refine ci (λh=>?_) (λh=>?_)
    ·have lj:j<(rs i).length:=by have:=oT h;omega
     clear h;obtain ⟨xv,a7,a3⟩:=ac j lj;have bf:=hP.len i U _ (getD_mem' [] (rs i) lj);obtain ⟨XA,xc,rfl,af,ae,a1⟩:=id a3;refine ρ ?_;refine ld (a6.at (i:=4) rfl) ?_;refine ρ ?_;refine ix i a5 U ?_;refine ρ ?_;refine ld (a5.cell ak) ?_;refine ρ ?_;refine ix j a2 lj ?_;refine ρ ?_;refine ld (a2.cell a7) ?_;refine ρ ?_;refine ixq 3 k a1 (by omega) ?_;refine ρ ?_;refine lds (cs:=(((rs i).getD j []).getD k V0).cells) (λq u hu=>RdR.cell a1 (by omega) hu) ?_;refine ρ ?_;refine bsl (Xqs _) ?_;intro w5 b5 ag bm b9;refine ρ ?_;refine cl (refPut_any (o.ext ag) (Blk.rowV b9) (BoolsV.nil _ none 0) (putF_set _).1 (by omega)) ?_;rintro ap w6 ⟨az,aq,_⟩;have e:enD vars rs v i k++((rs i).take (j+1)).map (λr=>[r.getD k V0])=(enD vars rs v i k++((rs i).take j).map λr=>[r.getD k V0])++[[((rs i).getD j []).getD k V0]]:=by
      rw [Jjp [] lj,List.map_append,List.append_assoc];rfl
     have bh:=putF_len (enD vars rs v i k++((rs i).take j).map λr=>[r.getD k V0]) [((rs i).getD j []).getD k V0];refine ρ ?_;refine Jjm (j+1) ap sO ⟨lj,(G.trans ag).trans aq,by rw [e,putF_snoc];exact az,by rw [e];omega⟩ (by omega)
    ·have b1:j=(rs i).length:=by have:=oF h;omega
     subst b1;clear h;rw [List.take_length,<-O]at o J;refine ρ ?_;exact Jjm (k+1) lv sO ⟨lk,C.trans G,o,by omega⟩ (by omega)
  ·have ab:k=(vars i).length:=by have:=oF h;omega
   subst ab;clear h;have e:(List.range (i+1)).flatMap (enI vars rs v)=enD vars rs v i (vars i).length:=by
    unfold enD;rw [List.range_succ,List.flatMap_append];simp [enI]
   refine ρ ?_;refine Jjm (i+1) lv sO ⟨U,Z,by rw [e];exact o,by rw [e];omega⟩ (by omega)
 ·have b2:i=m:=by have:=oF h;omega
  subst b2;clear h;have eR:putF ((List.range i).flatMap (enI vars rs v))=valR i vars rs v:=rfl;rw [eR]at o J;obtain ⟨TA,tc,rfl,av,au,ao,a2,ac⟩:=o.parts;refine ρ ?_;refine Jqb (fun (k:Nat) (vo:Value)=>[(5,.slice TA (valR i vars rs v).length tc),(9,vo),(10,.int .i64 (k:Int))])
   (λk vo w'=>k<=(valR i vars rs v).length/\Ext w2 w'/\Qzv w' w2.heap.size vo ((Xzz i vars rs v).take k)) (λk _=>(valR i vars rs v).length-k) 0 (.slice none 0 0) sB
   ⟨Nat.zero_le _,Ext.refl _,Jxm _ _ _ _⟩ ?_
  have ai:(Xzz i vars rs v).length=(valR i vars rs v).length:=by simp [Xzz]
  rintro k vo w3 ⟨hk,C,ho⟩;refine ρ ?_;refine ci (λh=>?_) (λh=>?_)
  ·have lk:k<(valR i vars rs v).length:=by have:=oT h;omega
   clear h;obtain ⟨xv,a7,a3⟩:=ac k lk;obtain ⟨x,hx⟩:=Qkh (getD_mem' [] _ lk);rw [hx]at a3;obtain ⟨XA,xc,rfl,af,ae,a1⟩:=id (a3.ext C);refine ρ ?_;refine ix k (a2.ext C) lk ?_;refine ρ ?_;refine ld ((a2.ext C).cell a7) ?_;refine ρ ?_;refine ixq 3 0 a1 (by simp) ?_;refine ρ ?_;refine lds (cs:=x.cells) (λq u hu=>RdR.cell (r:=[x]) a1 (i:=0) (by simp) hu) ?_;refine ρ ?_;refine bsl (bs1VVs x) ?_;intro w4 b4 G bn a6;have bl:((Xzz i vars rs v).take k).length=k:=by rw [List.length_take];omega
   refine ρ ?_;refine apb (m':=1) (news:=x.cells) EVv (Jjb ho G) (a6.rd (n:=1) rfl) (V.one _) (by unfold maxLen;omega) (by omega) (C.trans G).size ?_;intro v5 w5 ax b3 bj;have e:(Xzz i vars rs v).take (k+1)=(Xzz i vars rs v).take k++[x]:=by
    rw [Jjp V0 (by omega)];congr 2
    have:(Xzz i vars rs v).getD k V0=((valR i vars rs v).getD k []).getD 0 V0:=by
     unfold Xzz;simp only [List.getD,List.getElem?_map,List.getElem?_eq_getElem lk,Option.map_some,Option.getD_some]
    rw [this,hx];rfl
   refine ρ ?_;refine Jjm (k+1) v5 sO ⟨lk,Jjk (C.trans G) b3 (Jyx (Jjb ho G)),?_⟩ (by omega);rw [Qzv,e,List.length_append,rowC_app',rowC_one''];exact ax
  ·have ab:k=(valR i vars rs v).length:=by have:=oF h;omega
   rw [ab,<-ai,List.take_length]at ho;obtain ⟨A3,c3,rfl,b6,_⟩:=Jjd ho;refine ρ ?_;exact Jjr ⟨⟨⟨A3,c3,rfl,b6,by omega,Rd.own ho⟩,by omega⟩,(a9.trans a8).trans C⟩
end
end Go.Proofs.YtefpailelagbkaaGreatDoor
