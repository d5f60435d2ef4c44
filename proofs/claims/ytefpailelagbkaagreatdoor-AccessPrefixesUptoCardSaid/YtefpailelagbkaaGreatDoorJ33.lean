/- Part 33 of the proof: Ix4, Ix5. -/
import Derived.Test.YtefpailelagbkaaGreatDoorJ32
set_option linter.unusedVariables false
set_option maxRecDepth 100000
set_option maxHeartbeats 40000000
namespace Go.Wk
open Go.RowKit
theorem Qdb{P:Program}{w:World}{base e sz m c q:Nat}{A:Option Addr}{xs cs:List Value}(ho:w.ownsRow base e sz (.slice A m c) m xs)(hj:q+cs.length<=m*sz)(h0:0<cs.length)(h1:∀ u∈cs,u.oneCell'=true):
  ∃ w',(storeCells (adr A q) cs).run P w=.ok () w'/\w'.ownsRow base e sz (.slice A m c) m (xs.take q++cs++xs.drop (q+cs.length))/\w.grownBy w' (Value.slice A m c).ownBlock:=by
 rcases ho.2 with ⟨hn,hx⟩|⟨g,cap,cur,hv,hb,hg,hc,hcm,hcs,ht⟩
 ·rw [hx,Nat.zero_mul]at hj;omega
 injection hv with e1 _ e3
 subst e1;subst e3;have hmc:m*sz<=c*sz:=Nat.mul_le_mul_right _ hc;have ea:adr (some ⟨g,0,none⟩) q=⟨g,q,none⟩:=by simp [adr,Jzn]
 rw [ea];have hst:=run_storeCells_at (P:=P) g q e cs 0 cur w hg (by omega) h1;simp only [Nat.add_zero]at hst;refine ⟨_,hst,⟨?_,.inr ⟨g,c,_,rfl,hb,setRow_heap w g cur _ e (0,0) hg,hc,hcm,?_,?_⟩⟩,?_⟩
 ·have:=ho.1;simp only [List.length_append,List.length_take,List.length_drop];omega
 ·simp only [List.size_toArray,List.length_append,List.length_take,List.length_drop,Array.length_toList,hcs];omega
 ·simp only;have hlen:(cur.toList.take q++cs).length=q+cs.length:=by rw [List.length_append,List.length_take,Array.length_toList,hcs];omega
  rw [List.take_append,hlen];have e1:(cur.toList.take q++cs).take (m*sz)=cur.toList.take q++cs:=List.take_of_length_le (by omega);rw [e1,<-ht,List.take_take,Nat.min_eq_left (by omega),List.drop_take]
 ·exact Jzb w g (cur.toList.take q++cs++cur.toList.drop (q+cs.length)).toArray
theorem stoG{P:Program}{n:Nat}{al:AL}{w:World}{Q:Exit->Act->World->Prop}{ops:Array Oper}{rest:List Oper}{ty:Nat}{pos:String}{aft:Array Edge}{tt:TT}[h:Tab P tt]{x y:Operand}{t e base sz m c q:Nat}{A:Option Addr}{k:TK}{xs cs:List Value}(ho:w.ownsRow base e sz (.slice A m c) m xs)(hj:q+cs.length<=m*sz)(h0:0<cs.length)(kk:∀ w1,w1.ownsRow base e sz (.slice A m c) m (xs.take q++cs++xs.drop (q+cs.length))->w.grownBy w1 (Value.slice A m c).ownBlock->WL P n ops Q rest al w1)(h1:∀ u∈cs,u.oneCell'=true)(ht:tk tt t=some k:=by rfl)(hk:k.desc=.invalid:=by rfl)(hs:k.size=cs.length:=by rfl)(hx:ev al x=some (.pointer (some (adr A q))):=by rfl)(hy:ev al y=some (.agg cs.toArray):=by rfl):
  WL P n ops Q (⟨none,.store t x y,ty,pos,aft,none⟩::rest) al w:=by
 obtain ⟨w',hst,ho',hg'⟩:=Qdb (P:=P) ho hj h0 h1;refine Xqp (λa ha=>?_) (kk w' ho' hg');have hsz:=Jqr w (Jvk h.ok ht hk w).2;simp [execOp,ha.ev hx,ha.ev hy,Instr.storeAt,Instr.sureAddr,storeVar,Value.cells,hsz,hs,hst]
end Go.Wk
namespace Go.Proofs.YtefpailelagbkaaGreatDoor
open Go.RowKit Pl Go.Wk
attribute [local irreducible] WC WL QX WD WDB WP WN WG
abbrev BkT:= Row×Tr
def BkE(d:Bool)(N:Nat->Prop)(w:World)(cs:List Value)(b:BkT): Prop:=∃ kv q,cs=[kv,.bool d,q]/\RowX w N kv b.1/\TrV N w b.2 q
theorem RowX.gr{N:Nat->Prop}{w w':World}{v:Value}{r:Row}(h:RowX w N v r)(hg:GrN N w w'): RowX w' N v r:=by
 obtain ⟨A,c,h1,h2,h3,h4,h5⟩:=h;exact ⟨A,c,h1,h2,h3,Qzl h4 hg λh0 ad e=>h5 (λe'=>by rw [e']at h0;simp [Jxs]at h0) ad e,h5⟩
theorem BkE.gr{d:Bool}{N:Nat->Prop}{w w':World}{cs:List Value}{b:BkT}(h:BkE d N w cs b)(hg:GrN N w w'): BkE d N w' cs b:=by
 obtain ⟨kv,q,h1,h2,h3⟩:=h;exact ⟨kv,q,h1,h2.gr hg,h3.gr hg⟩
theorem BkE.ext{d:Bool}{N:Nat->Prop}{w w':World}{cs:List Value}{b:BkT}(h:BkE d N w cs b)(hx:Ext w w'): BkE d N w' cs b:=h.gr (GrN.ext hx)
theorem BkE.old{d:Bool}{N N':Nat->Prop}{w:World}{cs:List Value}{b:BkT}(h:BkE d N w cs b)(hs:∀ k,N' k->N k∨w.heap.size<=k): BkE d N' w cs b:=by
 obtain ⟨kv,q,h1,h2,h3⟩:=h;exact ⟨kv,q,h1,h2.mono λk hk h=>(hs k h).elim id λh'=>by omega,h3.old hs⟩
structure OwnB(d:Bool)(base:Nat)(w:World)(v:Value)(ps:List (List Value×BkT)): Prop where
 own:w.ownsRow base 141 3 v ps.length (Jxh ps)
 el:∀ p∈ps,BkE d (Jbl base v) w p.1 p.2
theorem BkE.len{d:Bool}{N:Nat->Prop}{w:World}{cs:List Value}{b:BkT}(h:BkE d N w cs b): cs.length=3:=by
 obtain ⟨kv,q,rfl,_⟩:=h;rfl
theorem OwnB.nil(d:Bool)(base:Nat)(w:World): OwnB d base w (.slice none 0 0) []:=⟨Jxj _ _ _ _,λp hp=>by cases hp⟩
theorem OwnB.form{d:Bool}{base:Nat}{w:World}{v:Value}{ps:List (List Value×BkT)}(h:OwnB d base w v ps): ∃ A c,v=.slice A ps.length c/\ps.length<=c/\∀ g,v.ownBlock=some g->base<=g/\g<w.heap.size:=Jjd h.own
theorem OwnB.gr{d:Bool}{base:Nat}{w w':World}{v:Value}{ps:List (List Value×BkT)}(h:OwnB d base w v ps){N:Nat->Prop}(hg:GrN N w w')(hN:∀ k,N k->k<base): OwnB d base w' v ps:=by
 obtain ⟨_,_,_,_,hf⟩:=h.form;exact ⟨Jjr h.own hg (λg eg hn=>by have:=(hf g eg).1;have:=hN g hn;omega),λp hp=>(h.el p hp).gr (hg.mono λk _ hk=>.inl (hN k hk))⟩
theorem OwnB.ext{d:Bool}{base:Nat}{w w':World}{v:Value}{ps:List (List Value×BkT)}(h:OwnB d base w v ps)(hx:Ext w w'): OwnB d base w' v ps:=h.gr (N:=λ_=>False) (GrN.ext hx) λk e=>e.elim
theorem BkE.one{d:Bool}{N:Nat->Prop}{w:World}{cs:List Value}{b:BkT}(h:BkE d N w cs b): ∀ u∈cs,u.oneCell'=true:=by
 obtain ⟨kv,q,rfl,h2,h3⟩:=h;obtain ⟨p,rfl⟩:=h3.ptr;intro u hu;simp only [List.mem_cons,List.not_mem_nil,or_false]at hu;rcases hu with rfl|rfl|rfl
 ·exact h2.v.one
 ·rfl
 ·rfl
theorem EBk: ElT Tryz.prog 138 141 3 40 (.agg #[.slice none 0 0,.bool false,.pointer none]):=⟨Tryz.underlying138,info_parts (by kernel_rfl),rfl,by decide⟩
open Go.RowKit Pl Go.Wk
theorem apB{n:Nat}{al:AL}{w:World}{Q:Exit->Act->World->Prop}{ops:Array Oper}{rest:List Oper}{d ty:Nat}{pos:String}{aft:Array Edge}{dir:Bool}{base b:Nat}{x y:Operand}{v:Value}{ps:List (List Value×BkT)}{cs:List Value}{bt:BkT}(ho:OwnB dir base w v ps)(hb:Blk w b 141 cs)(hΦ:BkE dir (Jbl base v) w cs bt)(hm:ps.length<=1000000)(hbase:base<=w.heap.size)(kk:∀ v' w',OwnB dir base w' v' (ps++[(cs,bt)])->w.grownBy w' v.ownBlock->WL Tryz.prog n ops Q rest ((d,v')::al) w')(hx:ev al x=some v:=by rfl)(hy:ev al y=some (.slice (some ⟨b,0,none⟩) 1 1):=by rfl)(hd:Nat.blt d n=true:=by rfl):
  WL Tryz.prog n ops Q (⟨some d,.call { callee:=.builtin .append,args:=#[x,y],argTypes:=#[138,138] },ty,pos,aft,none⟩::rest) al w:=by
 refine apb (m':=1) (news:=cs) EBk ho.own (hb.rd (n:=1) (by rw [hΦ.len])) hΦ.one (by unfold maxLen;omega) (by omega) hbase ?_ hx hy hd;intro v' w' ho' hg hn;refine kk v' w' ⟨?_,?_⟩ hg
 ·rw [List.length_append,List.length_singleton];have e:Jxh (ps++[(cs,bt)])=Jxh ps++cs:=by simp [Jxh]
  rw [e];exact ho'
 ·have key:∀ p:List Value×BkT,BkE dir (Jbl base v) w p.1 p.2->BkE dir (Jbl base v') w' p.1 p.2:=λp h1=>by
   have h2:BkE dir (λk=>Jbl base v k∨Jbl base v' k) w p.1 p.2:=h1.old λk hk=>by
    rcases hk with h|h|h
    ·exact .inl h
    ·exact .inl (.inl h)
    ·rcases hn k h with h'|h'
     ·exact .inl (.inr h')
     ·exact .inr h'
   exact (h2.gr (GrN.by hg λk hk=>.inl (.inr hk))).old λk hk=>.inl (.inr hk)
  intro p hp;rcases List.mem_append.1 hp with h1|h1
  ·exact key p (ho.el p h1)
  ·rw [List.mem_singleton.1 h1];exact key (cs,bt) hΦ
theorem Qdt{ps:List (List Value×BkT)}(hl:∀ p∈ps,p.1.length=3)(kv x1 x2 y1 y2:Value)(b b':BkT):
  (Jxh (ps++[([kv,x1,x2],b)])).take (ps.length*3+1)++[y1,y2]++(Jxh (ps++[([kv,x1,x2],b)])).drop (ps.length*3+1+2)=Jxh (ps++[([kv,y1,y2],b')]):=by
 have e:∀ z:List Value×BkT,Jxh (ps++[z])=Jxh ps++z.1:=λz=>by simp [Jxh]
 have h3:=Jmz hl;rw [e,e,<-h3];simp only;have t1:(Jxh ps++[kv,x1,x2]).take ((Jxh ps).length+1)=Jxh ps++[kv]:=by
  rw [List.take_append,List.take_of_length_le (by omega),Nat.add_sub_cancel_left];rfl
 have t2:(Jxh ps++[kv,x1,x2]).drop ((Jxh ps).length+1+2)=[]:=List.drop_of_length_le (by simp);rw [t1,t2];simp
theorem Qhb{d:Bool}{wt:Row->Nat}{m:Nat}{bs:List (Row×Tr)}{x:Row}(h0:wt x≠0)(h1:¬ (bs.getLast?.map (·.1))=some (x.take m)): Pl.stepG d wt m bs x=bs++[(x.take m,Tr.put d (x.getD m V0) (wt x) .nil)]:=by
 rw [Pl.stepG,if_neg h0,if_neg h1]
theorem Qcm{d:Bool}{wt:Row->Nat}{m:Nat}{i:List (Row×Tr)}{t:Tr}{x:Row}(h0:wt x≠0): Pl.stepG d wt m (i++[(x.take m,t)]) x=i++[(x.take m,Tr.put d (x.getD m V0) (wt x) t)]:=by
 rw [Pl.stepG,if_neg h0,if_pos (by simp)];simp
theorem Qcl{d:Bool}{wt:Row->Nat}{m:Nat}{bs:List (Row×Tr)}{x:Row}(h0:wt x=0): Pl.stepG d wt m bs x=bs:=by rw [Pl.stepG,if_pos h0]
def Qxm(d:Bool)(wt:Row->Nat)(m:Nat)(rs:List Row): List BkT:=rs.foldl (Pl.stepG d wt m) []
theorem Jdx(d:Bool)(wt:Row->Nat)(m:Nat)(rs:List Row)(x:Row): Qxm d wt m (rs++[x])=Pl.stepG d wt m (Qxm d wt m rs) x:=by
 unfold Qxm;rw [List.foldl_append];rfl
theorem Jdz{d:Bool}{wt:Row->Nat}{m:Nat}{rs:List Row}(hs:Lt [] rs)(hl:∀ y∈rs,y.length=m+1): GInv d wt m rs (Qxm d wt m rs):=by
 suffices h:∀ k,k<=rs.length->GInv d wt m (rs.take k) (Qxm d wt m (rs.take k)) by
  have:=h rs.length (Nat.le_refl _);rw [List.take_length]at this;exact this
 intro k;induction k with
 | zero=>intro _;exact GInv.nil d wt m
 | succ k ih=>
  intro hk;have e:=Jjm [] (show k<rs.length by omega);rw [e,Jdx];refine (ih (by omega)).step ?_ ?_
  ·rw [<-e];exact hs.sublist (List.take_sublist _ _)
  ·rw [<-e];exact λy hy=>hl y (List.mem_of_mem_take hy)
def Qgt(bs:List BkT)(k:Row): Nat:=match bs.find? λb=>decide (b.1=k) with
 | some b=>b.2.sum
 | none=>0
theorem Qzw(bs:List BkT)(k:Row): Qgt bs k=tot (entK bs k):=by
 unfold Qgt entK;cases bs.find? λb=>decide (b.1=k) with
 | some b=>exact Tr.sum_eq _
 | none=>rfl
end Go.Proofs.YtefpailelagbkaaGreatDoor
