/- Part 1. -/
import Derived.Test.YtebcagekopgdhaaGreatDoorY00
import Derived.Test.YtebcagekopgdhaaGreatDoorRows
import Derived.IntWalk
import Derived.Laws.Cover3
import Derived.Lib.Bytealg
import Derived.Sort.AssemblyPlain
import Derived.Laws.Bits64b
set_option linter.unusedVariables false
set_option maxRecDepth 100000
set_option maxHeartbeats 40000000
namespace Go.Wk
open Go.RowKit
variable {cs xs:List Value}{base c e j m:Nat}{A:Option Addr}
section
variable {P:Program} {n:Nat} {al:AL} {w:World} {Q:Exit->Act->World->Prop} {ops:Array Oper} {rest:List Oper}
variable {d ty:Nat} {op:Op} {pos:String} {aft:Array Edge} {tt:TT}
theorem Qfv{sz:Nat}(ho:w.ownsRow base e sz (.slice A m c) m xs)(hj:j<m)(hl:cs.length=sz)(h1:∀ u∈cs,u.oneCell'=true):
  ∃ w',(storeCells (adr A (j*sz)) cs).run P w=.ok () w'/\w'.ownsRow base e sz (.slice A m c) m (xs.take (j*sz)++cs++xs.drop (j*sz+sz))/\w.grownBy w' (Value.slice A m c).ownBlock:=by
 rcases ho.2 with ⟨_,h0⟩|⟨g,cap,cur,hv,hb,hg,hc,hcm,hcs,ht⟩
 .omega
 injection hv with G _ e3
 subst G;subst e3;have O:j*sz+sz<=m*sz:=by have:=nO sz hj;rw [Nat.succ_mul]at this;exact this
 have J:m*sz<=c*sz:=nO _ hc;have U:adr (some ⟨g,0,none⟩) (j*sz)=⟨g,j*sz,none⟩:=by simp [adr,Vo]
 rw [U];have o:=run_storeCells_at (P:=P) g (j*sz) e cs 0 cur w hg om h1;simp only [Nat.add_zero]at o;refine ⟨_,o,⟨?_,.inr ⟨g,c,_,rfl,hb,setRow_heap w g cur _ e (0,0) hg,hc,hcm,?_,?_⟩⟩,?_⟩
 .have:=ho.1;simp only [List.length_append,List.length_take,List.length_drop];omega
 .simp only [List.size_toArray,List.length_append,List.length_take,List.length_drop,Array.length_toList,hcs,hl];omega
 .simp only;have C:(cur.toList.take (j*sz)++cs).length=j*sz+sz:=by rw [List.length_append,List.length_take,Array.length_toList,hcs,hl];omega
  rw [List.take_append,C];have G:(cur.toList.take (j*sz)++cs).take (m*sz)=cur.toList.take (j*sz)++cs:=List.take_of_length_le om;rw [G,<-ht,List.take_take,Nat.min_eq_left om,List.drop_take,hl]
 .have:=Jjh w g (cur.toList.take (j*sz)++cs++cur.toList.drop (j*sz+cs.length)).toArray;exact this
theorem stoE[h:Tab P tt]{x y:Operand}{t sz:Nat}{k:TK}(ho:w.ownsRow base e sz (.slice A m c) m xs)(hj:j<m)(kk:∀ w1,w1.ownsRow base e sz (.slice A m c) m (xs.take (j*sz)++cs++xs.drop (j*sz+sz))->w.grownBy w1 (Value.slice A m c).ownBlock->WL P n ops Q rest al w1)(h1:∀ u∈cs,u.oneCell'=true)(ht:tk tt t=some k:=by rfl)(hk:k.desc=.invalid:=by rfl)(hs:k.size=sz:=by rfl)(hl:cs.length=sz:=by rfl)(hx:ev al x=some (.pointer (some (adr A (j*sz)))):=by rfl)(hy:ev al y=some (.agg cs.toArray):=by rfl):
  WL P n ops Q (⟨none,.store t x y,ty,pos,aft,none⟩::rest) al w:=by
 obtain ⟨w',C,G,J⟩:=Qfv (P:=P) ho hj hl h1;refine Iz (λa O=>?_) (kk w' G J);have o:=Vk w (Jql h.ok ht hk w).2;simp [execOp,O.ev hx,O.ev hy,Instr.storeAt,Instr.sureAddr,storeVar,Value.cells,o,hs,hl,C]
end
end Go.Wk
namespace Go.Wk
open Go.RowKit
variable {p q:Bool}{cs vs:List Value}{e len:Nat}{x y:Operand}{k:TK}{t t2:TypeId}
section
variable {P:Program} {n:Nat} {al:AL} {w:World} {Q:Exit->Act->World->Prop} {ops:Array Oper} {rest:List Oper} {drest:List (Nat×Oper)}
variable {d ty:Nat} {op:Op} {pos:String} {aft:Array Edge} {tt:TT}
def toE(P:Program)(ops:Array Oper)(Q:Exit->Act->World->Prop)(w0:World)(rest:List (Nat×Oper)): Exit->Act->World->Prop
 | .normal,a,w=>Ext w0 w/\Qg P ops Q rest a w
 | _,_,_=>False
theorem Un{w0:World}(hx:Ext w0 w)(h:WD P n ops Q drest al w): QX n (toE P ops Q w0 drest) .normal al w:=λa o=>⟨hx,h a o⟩
theorem Up{o:Oper}(h:WL P n ops (toE P ops Q w drest) [o] al w): WD P n ops Q ((1,o)::drest) al w:=λa J=>by
 have u:=h a J;unfold wpList at u;unfold Qg wk1;simp only;have C:¬ LetsOut (toE P ops Q w drest):=by rintro ⟨a,w,h⟩;exact h
 split
 .rename_i hw;simp only [hw,if_true]at u;rcases u with u|⟨_,u⟩
  .refine Oper.wp_mono (K:=wpList P ops (toE P ops Q w drest) []) (λU w' O=>O) ?_;unfold Oper.wp at u ⊢;exact Yc (Q:=toE P ops Q w drest) (λc a w G=>G.elim) (λG=>absurd G C) u
  .exact absurd u C
 .rename_i hw;simp only [hw]at u;exact u.2
theorem Qcb(hT:TOk P tt)(ht:tk tt t=some k)(hk:k.desc=.bool){a:Act}(ha:Fr n al a)(hx:ev al x=some (.bool p))(hy:ev al y=some (.bool q))(dst:Option Nat)(w:World):
  (execOp a.eval ⟨dst,.binOp .eql t x y t2,ty,pos,aft,none⟩).run P w=.ok (.value (.bool (p == q))) w:=by
 have o:=Vm hT ht hk rfl;have h:∀ d:Nat,(Op.equalIn (d+1) t (.bool p) (.bool q)).run P w=.ok (p == q) w:=λd=>by simp [Op.equalIn,run_underlying o]
 simp [execOp,ha.ev hx,ha.ev hy,eqGuard,binOp,Op.equal,Op.maxDepth,h 9999]
theorem eqb[h:Tab P tt](kk:WL P n ops Q rest ((d,.bool (p == q))::al) w)(ht:tk tt t=some k:=by rfl)(hk:k.desc=.bool:=by rfl)(hx:ev al x=some (.bool p):=by rfl)(hy:ev al y=some (.bool q):=by rfl)(hd:Nat.blt d n=true:=by rfl):
  WL P n ops Q (⟨some d,.binOp .eql t x y t2,ty,pos,aft,none⟩::rest) al w:=wop hd (λa o=>Qcb h.ok ht hk o hx hy (some d) w) kk
theorem dbsl{t:Nat}{parts:Array (Nat×Operand)}{pw:Array (Nat×Value)}(hb:∀ w:World,(Instr.buildSlice t len pw).run P w=.ok (.slice (some ⟨w.heap.size,0,none⟩) len len) (w.alloc (.cells cs.toArray e)))(kk:∀ w1 b,Ext w w1->w.heap.size<=b->Blk w1 b e cs->WD P n ops Q drest ((d,.slice (some ⟨b,0,none⟩) len len)::al) w1)(hx:evs al (parts.toList.map (·.2))=some vs:=by rfl)(hp:((parts.toList.map (·.1)).zip vs).toArray=pw:=by rfl)(hd:Nat.blt d n=true:=by rfl):
  WD P n ops Q ((1,⟨some d,.buildSlice t len parts,ty,pos,aft,none⟩)::drest) al w :=
 Up (bsl hb (λw1 b o C u=>Jh (Un o (kk w1 b o C u))) hx hp hd)
end
end Go.Wk
namespace Go.Wk
open Go.RowKit
variable {L listed:Array Bool}{l:List Oper}{fuel fuel' i id:Nat}{o oi oj:Oper}{w w0:World}
section
variable {P:Program} {ops:Array Oper} {Q:Exit->Act->World->Prop}
def noT: Nat->Bool:=λ_=>false
theorem Qyw: Gl ops noT=true:=by simp [Gl,noT]
def Iq(ops:Array Oper): List (Nat×Nat)->Array Bool->Option (Array Bool)
 | [],listed=>some listed
 | (0,i)::r,listed=>if (Region.ready .any ops listed).contains i && Region.free .any ops listed i && Nat.blt i ops.size then Iq ops r (listed.setIfInBounds i true) else none
 | (1,i)::r,listed=>if (Region.ready .any ops listed == [i]) && Nat.blt i ops.size then Iq ops r (listed.setIfInBounds i true) else none
 | _::_,_=>none
def toK(P:Program)(ops:Array Oper)(Q:Exit->Act->World->Prop)(fuel:Nat)(listed:Array Bool): Exit->Act->World->Prop
 | .normal,a,w=>Uz P ops Q noT fuel listed a w
 | _,_,_=>False
theorem Xqp{a:Act}{K:Act->World->Prop}(h:o.wp P a w K (QF (toK P ops Q fuel listed))): o.wp P a w K (QF Q):=by
 unfold Oper.wp at h ⊢;have u:¬ LetsOut (QF (toK P ops Q fuel listed)):=by rintro ⟨a,w,h⟩;exact h
 exact Yc (Q:=QF (toK P ops Q fuel listed)) (λc a w C=>C.elim) (λC=>absurd C u) h
theorem Jwt(hsel:Region.noSelect ops=true)(fuel:Nat)(listed':Array Bool): ∀ (s:List (Nat×Nat)) (listed:Array Bool) (a:Act) (w:World),Iq ops s listed=some listed'->Qg P ops (toK P ops Q fuel listed') (Je ops.toList s) a w->Uz P ops Q noT (s.length+fuel) listed a w
 | [],listed,a,w,hB,h=>by
  simp only [Iq,Option.some.injEq]at hB;subst hB;simp only [List.length_nil,Nat.zero_add];exact h
 | (0,i)::r,listed,a,w,hB,h=>by
  simp only [Iq]at hB;split at hB
  .rename_i hc;simp only [Bool.and_eq_true]at hc;obtain ⟨⟨hr,hf⟩,hi0⟩:=hc;have hi:i<ops.size:=by (have:i+1<=ops.size:=by simpa [Nat.blt] using hi0);(omega)
   have ho:ops[i]?=some ops[i]:=Array.getElem?_eq_getElem hi;have hn:nth ops.toList i=some ops[i]:=by rw [Xk];simp [hi]
   simp only [Je,hn,Qg,wk1]at h;obtain ⟨v,hy,h⟩:=h;rw [show ((0,i)::r).length+fuel=(r.length+fuel)+1 by simp;omega];exact Jlq Qyw ho rfl (Region.noSelect_spec hsel) _ listed a w (Region.free_spec ho hf) (by simpa using hr) hy (Jwt hsel fuel listed' r _ _ _ hB h)
  .cases hB
 | (1,i)::r,listed,a,w,hB,h=>by
  simp only [Iq]at hB;split at hB
  .rename_i hc;simp only [Bool.and_eq_true,beq_iff_eq]at hc;obtain ⟨hr,hi0⟩:=hc;have hi:i<ops.size:=by (have:i+1<=ops.size:=by simpa [Nat.blt] using hi0);(omega)
   have ho:ops[i]?=some ops[i]:=Array.getElem?_eq_getElem hi;have hn:nth ops.toList i=some ops[i]:=by rw [Xk];simp [hi]
   simp only [Je,hn,Qg,wk1]at h;rw [show ((1,i)::r).length+fuel=(r.length+fuel)+1 by simp;omega];refine .inr ⟨λh0=>(by rw [hr]at h0;cases h0),λj hj=>?_⟩;rw [hr]at hj;obtain rfl:j=i:=by simpa using hj
   unfold wpOp;simp only [ho];split
   .rename_i hw;simp only [hw,if_true]at h;exact .inl (Oper.wp_mono (λa' w' h'=>⟨h'.1,Jwt hsel fuel listed' r _ _ _ hB h'.2⟩) (Xqp h))
   .rename_i hw;simp only [hw]at h;exact ⟨Ext.refl w,Jwt hsel fuel listed' r _ _ _ hB h⟩
  .cases hB
 | (k+2,i)::r,listed,a,w,hB,h=>by simp [Iq]at hB
end
section
variable {P:Program} {n:Nat} {al al':AL} {w:World} {Q:Exit->Act->World->Prop} {ops:Array Oper}
def WG(P:Program)(n:Nat)(ops:Array Oper)(Q:Exit->Act->World->Prop)(fuel:Nat)(listed:Array Bool)(al:AL)(w:World): Prop:=∀ a,Fr n al a->Uz P ops Q noT fuel listed a w
theorem WG.sub{fuel:Nat}{listed:Array Bool}(hs:Sub al' al)(h:WG P n ops Q fuel listed al' w): WG P n ops Q fuel listed al w:=λa o=>h a (o.sub hs)
theorem drG{tt:TT}[ht:Tab P tt](hsel:Region.noSelect l.toArray=true)(h:WG P n l.toArray Q l.toArray.size (Array.replicate l.toArray.size false) al w.drew): WC P n (.region id l.toArray true) Q al w:=λa o=>
 wp_region_any ht.mixed (Jbt (T:=noT) _ _ _ _ (h a o))
theorem Zo(s:List (Nat×Nat))(listed':Array Bool)(hsel:Region.noSelect l.toArray=true)(hB:Iq l.toArray s listed=some listed')(hf:fuel=s.length+fuel')(h:WD P n l.toArray (toK P l.toArray Q fuel' listed') (Je l s) al w): WG P n l.toArray Q fuel listed al w:=λa o=>by
 subst hf;refine Jwt hsel fuel' listed' s listed a w hB ?_;have:=h a o;simpa using this
theorem Zu(h:WG P n ops Q fuel listed al w): QX n (toK P ops Q fuel listed) .normal al w:=h
theorem gend(hr:Region.ready .any ops listed=[])(h:QX n Q .normal al w): WG P n ops Q 0 listed al w:=λa o=>⟨hr,h a o⟩
def toJ(P:Program)(ops:Array Oper)(Q:Exit->Act->World->Prop)(w0:World)(fuel:Nat)(listed:Array Bool): Exit->Act->World->Prop
 | .normal,a,w=>Ext w0 w/\Uz P ops Q noT fuel listed a w
 | _,_,_=>False
theorem Ks(hx:Ext w0 w)(h:WG P n ops Q fuel listed al w): QX n (toJ P ops Q w0 fuel listed) .normal al w:=λa o=>⟨hx,h a o⟩
theorem Jlg(ho:ops[i]?=some o)(h:WL P n ops (toJ P ops Q w fuel listed) [o] al w): ∀ a,Fr n al a->wpOp P ops (QF Q) i (λa' w'=>Ext w w'/\Uz P ops Q noT fuel listed a' w') a w:=λa J=>by
 have u:=h a J;unfold wpList at u;unfold wpOp;simp only [ho];have C:¬ LetsOut (toJ P ops Q w fuel listed):=by rintro ⟨a,w,h⟩;exact h
 split
 .rename_i hw;simp only [hw,if_true]at u;rcases u with u|⟨_,u⟩
  .left
   refine Oper.wp_mono (K:=wpList P ops (toJ P ops Q w fuel listed) []) (λa' w' O=>O) ?_;unfold Oper.wp at u ⊢;exact Yc (Q:=toJ P ops Q w fuel listed) (λc a w G=>G.elim) (λG=>absurd G C) u
  .exact absurd u C
 .rename_i hw;simp only [hw]at u;exact u
theorem gtwo(i j:Nat)(hr:Region.ready .any l.toArray listed=[i,j])(hf:fuel=fuel'+1)(hi:nth l i=some oi)(hj:nth l j=some oj)(h1:WL P n l.toArray (toJ P l.toArray Q w fuel' (listed.setIfInBounds i true)) [oi] al w)(h2:WL P n l.toArray (toJ P l.toArray Q w fuel' (listed.setIfInBounds j true)) [oj] al w): WG P n l.toArray Q fuel listed al w:=λa u=>by
 subst hf;have G:l.toArray[i]?=some oi:=by rw [<-hi,Xk];simp
 have C:l.toArray[j]?=some oj:=by rw [<-hj,Xk];simp
 refine .inr ⟨λh0=>(by rw [hr]at h0;cases h0),λk o=>?_⟩;rw [hr]at o;simp only [List.mem_cons,List.not_mem_nil,or_false]at o;rcases o with rfl|rfl
 .exact Jlg G h1 a u
 .exact Jlg C h2 a u
theorem gcut{α:Type}(fuel':Nat)(L':Array Bool)(fr:α->AL)(I:α->World->Prop)(h2:∀ x w,I x w->WG P n ops Q fuel' L' (fr x) w)(h1:(∀ x al w,I x w->Sub (fr x) al->WG P n ops Q fuel' L' al w)->WG P n ops Q fuel L al w): WG P n ops Q fuel L al w:=h1 λx al w hi o=>(h2 x w hi).sub o
def lst(m k:Nat): Array Bool:=((List.range m).map λi=>Nat.blt i k).toArray
end
end Go.Wk
namespace Go.Wk
open Go.RowKit
variable {L listed listed':Array Bool}{l:List Oper}{fuel fuel' i id:Nat}{o oi oj:Oper}{w w0:World}
section
variable {P:Program} {ops:Array Oper} {Q:Exit->Act->World->Prop} {T:Nat->Bool}
def Gf(ops:Array Oper)(T:Nat->Bool)(F:Nat): List (Nat×Nat)->Array Bool->Option (Array Bool)
 | [],listed=>some listed
 | (0,i)::r,listed=>if (Region.ready .any ops listed).contains i && Region.free .any ops listed i && Nat.blt i ops.size && !T i && (List.range ops.size).all (λt=>!T t || Gz ops F t i) then Gf ops T F r (listed.setIfInBounds i true) else none
 | (1,i)::r,listed=>if (Region.ready .any ops listed == [i]) && Nat.blt i ops.size then Gf ops T F r (listed.setIfInBounds i true) else none
 | (2,i)::r,listed=>if (Region.ready .any ops listed == [i]) && Nat.blt i ops.size && T i then Gf ops T F r (listed.setIfInBounds i true) else none
 | _::_,_=>none
def Iy(P:Program)(ops:Array Oper)(Q:Exit->Act->World->Prop)(T:Nat->Bool)(fuel:Nat)(listed:Array Bool): Exit->Act->World->Prop
 | .normal,a,w=>Closed ops listed->Vh P ops Q T fuel listed a w
 | _,_,_=>False
theorem Qwb{a:Act}{K:Act->World->Prop}(h:o.wp P a w K (QF (Iy P ops Q T fuel listed))): o.wp P a w K (QF Q):=by
 unfold Oper.wp at h ⊢;have u:¬ LetsOut (QF (Iy P ops Q T fuel listed)):=by rintro ⟨a,w,h⟩;exact h
 exact Yc (Q:=QF (Iy P ops Q T fuel listed)) (λc a w C=>C.elim) (λC=>absurd C u) h
theorem Jqb(hsel:Region.noSelect ops=true)(F fuel:Nat)(listed':Array Bool): ∀ (s:List (Nat×Nat)) (listed:Array Bool) (a:Act) (w:World),Closed ops listed->Gf ops T F s listed=some listed'->Qg P ops (Iy P ops Q T fuel listed') (Je ops.toList s) a w->Vh P ops Q T (s.length+fuel) listed a w
 | [],listed,a,w,hcl,hB,h=>by
  simp only [Gf,Option.some.injEq]at hB;subst hB;simp only [List.length_nil,Nat.zero_add];exact h hcl
 | (0,i)::r,listed,a,w,hcl,hB,h=>by
  simp only [Gf]at hB;split at hB
  .rename_i hc;simp only [Bool.and_eq_true]at hc;obtain ⟨⟨⟨⟨hr,hf⟩,hi0⟩,hTi⟩,hre⟩:=hc;have hi:i<ops.size:=by (have:i+1<=ops.size:=by simpa [Nat.blt] using hi0);(omega)
   have ho:ops[i]?=some ops[i]:=Array.getElem?_eq_getElem hi;have hn:nth ops.toList i=some ops[i]:=by rw [Xk];simp [hi]
   have hr':i∈Region.ready .any ops listed:=by simpa using hr
   simp only [Je,hn,Qg,wk1]at h;obtain ⟨v,hy,h⟩:=h;rw [show ((0,i)::r).length+fuel=(r.length+fuel)+1 by simp;omega];refine Jwv Ext Ext.refl Ext.trans ho (Region.noSelect_spec hsel) ?_ _ listed a w hcl (Region.free_spec ho hf) hr' hy (Jqb hsel F fuel listed' r _ _ _ (hcl.step hr') hB h);intro listed2 j hcl2 hri hrj w w' hx;cases hT:T j with
   | false=>exact hx hT
   | true=>
    obtain ⟨_,oj,hoj,_⟩:=mem_ready.1 hrj;have hjl:j<ops.size:=(Array.getElem?_eq_some_iff.1 hoj).1;have h9:=List.all_eq_true.1 hre j (List.mem_range.2 hjl);rw [hT]at h9;have h1:=Jvn hcl2 F j i oj hoj (Jvm hoj hrj) (by simpa using h9);have h0:=(mem_ready.1 hri).1;rcases Nat.lt_or_ge i listed2.size with h'|h'
    .simp [h']at h0 h1;rw [h0]at h1;cases h1
    .simp [Array.getElem?_eq_none h']at h1
  .cases hB
 | (1,i)::r,listed,a,w,hcl,hB,h=>by
  simp only [Gf]at hB;split at hB
  .rename_i hc;simp only [Bool.and_eq_true,beq_iff_eq]at hc;obtain ⟨hr,hi0⟩:=hc;have hi:i<ops.size:=by (have:i+1<=ops.size:=by simpa [Nat.blt] using hi0);(omega)
   have ho:ops[i]?=some ops[i]:=Array.getElem?_eq_getElem hi;have hn:nth ops.toList i=some ops[i]:=by rw [Xk];simp [hi]
   have hcl':Closed ops (listed.setIfInBounds i true):=hcl.step (by rw [hr];exact List.mem_singleton.2 rfl);simp only [Je,hn,Qg,wk1]at h;rw [show ((1,i)::r).length+fuel=(r.length+fuel)+1 by simp;omega];refine ⟨λh0=>(by rw [hr]at h0;cases h0),λj hj=>?_⟩;rw [hr]at hj;obtain rfl:j=i:=by simpa using hj
   unfold wpOp;simp only [ho];split
   .rename_i hw;simp only [hw,if_true]at h;exact .inl (Oper.wp_mono (λa' w' h'=>⟨λ_=>h'.1,Jqb hsel F fuel listed' r _ _ _ hcl' hB h'.2⟩) (Qwb h))
   .rename_i hw;simp only [hw]at h;exact ⟨λ_=>Ext.refl w,Jqb hsel F fuel listed' r _ _ _ hcl' hB h⟩
  .cases hB
 | (2,i)::r,listed,a,w,hcl,hB,h=>by
  simp only [Gf]at hB;split at hB
  .rename_i hc;simp only [Bool.and_eq_true,beq_iff_eq]at hc;obtain ⟨⟨hr,hi0⟩,hTi⟩:=hc;have hi:i<ops.size:=by (have:i+1<=ops.size:=by simpa [Nat.blt] using hi0);(omega)
   have ho:ops[i]?=some ops[i]:=Array.getElem?_eq_getElem hi;have hn:nth ops.toList i=some ops[i]:=by rw [Xk];simp [hi]
   have hcl':Closed ops (listed.setIfInBounds i true):=hcl.step (by rw [hr];exact List.mem_singleton.2 rfl);simp only [Je,hn,Qg,wk1]at h;rw [show ((2,i)::r).length+fuel=(r.length+fuel)+1 by simp;omega];refine ⟨λh0=>(by rw [hr]at h0;cases h0),λj hj=>?_⟩;rw [hr]at hj;obtain rfl:j=i:=by simpa using hj
   unfold wpOp;simp only [ho];split
   .rename_i hw;simp only [hw,if_true]at h;exact .inl (Oper.wp_mono (λa' w' h'=>⟨λh0=>(by rw [hTi]at h0;cases h0),Jqb hsel F fuel listed' r _ _ _ hcl' hB h'⟩) (Qwb h))
   .rename_i hw;simp only [hw]at h;exact ⟨λ_=>Ext.refl w,Jqb hsel F fuel listed' r _ _ _ hcl' hB h⟩
  .cases hB
 | (k+3,i)::r,listed,a,w,hcl,hB,h=>by simp [Gf]at hB
end
section
variable {P:Program} {n:Nat} {al al':AL} {w:World} {Q:Exit->Act->World->Prop} {ops:Array Oper} {T:Nat->Bool}
def WH(P:Program)(n:Nat)(ops:Array Oper)(Q:Exit->Act->World->Prop)(T:Nat->Bool)(fuel:Nat)(listed:Array Bool)(al:AL)(w:World): Prop:=Closed ops listed->∀ a,Fr n al a->Vh P ops Q T fuel listed a w
theorem WH.sub{fuel:Nat}{listed:Array Bool}(hs:Sub al' al)(h:WH P n ops Q T fuel listed al' w): WH P n ops Q T fuel listed al w:=λo a u=>h o a (u.sub hs)
theorem Qxd(ops:Array Oper)(m:Nat): Closed ops (Array.replicate m false):=λk o _ u=>by
 exfalso
 rcases Nat.lt_or_ge k m with h|h
 .simp [h]at u
 .simp [Nat.not_lt.2 h]at u
theorem drH{tt:TT}[ht:Tab P tt](T:Nat->Bool)(h:WH P n l.toArray Q T l.toArray.size (Array.replicate l.toArray.size false) al w.drew): WC P n (.region id l.toArray true) Q al w:=λa o=>
 wp_region_any ht.mixed (Jbv (T:=T) _ _ _ _ (h (Qxd _ _) a o))
theorem Zp(F:Nat)(s:List (Nat×Nat))(listed':Array Bool)(hsel:Region.noSelect l.toArray=true)(hB:Gf l.toArray T F s listed=some listed')(hf:fuel=s.length+fuel')(h:WD P n l.toArray (Iy P l.toArray Q T fuel' listed') (Je l s) al w): WH P n l.toArray Q T fuel listed al w:=λo a u=>by
 subst hf;refine Jqb hsel F fuel' listed' s listed a w o hB ?_;have:=h a u;simpa using this
theorem Xv(h:WH P n ops Q T fuel listed al w): QX n (Iy P ops Q T fuel listed) .normal al w:=λa u o=>h o a u
theorem hend(hr:Region.ready .any ops listed=[])(h:QX n Q .normal al w): WH P n ops Q T 0 listed al w:=λ_ a o=>⟨hr,h a o⟩
def Ib(P:Program)(ops:Array Oper)(Q:Exit->Act->World->Prop)(T:Nat->Bool)(w0:World)(fuel:Nat)(listed:Array Bool): Exit->Act->World->Prop
 | .normal,a,w=>Ext w0 w/\(Closed ops listed->Vh P ops Q T fuel listed a w)
 | _,_,_=>False
theorem Kr(hx:Ext w0 w)(h:WH P n ops Q T fuel listed al w): QX n (Ib P ops Q T w0 fuel listed) .normal al w:=λa u=>⟨hx,λo=>h o a u⟩
theorem Jlf(ho:ops[i]?=some o)(hc:Closed ops listed)(h:WL P n ops (Ib P ops Q T w fuel listed) [o] al w): ∀ a,Fr n al a->wpOp P ops (QF Q) i (λa' w'=>(T i=false->Ext w w')/\Vh P ops Q T fuel listed a' w') a w:=λa O=>by
 have u:=h a O;unfold wpList at u;unfold wpOp;simp only [ho];have C:¬ LetsOut (Ib P ops Q T w fuel listed):=by rintro ⟨a,w,h⟩;exact h
 split
 .rename_i hw;simp only [hw,if_true]at u;rcases u with u|⟨_,u⟩
  .left
   refine Oper.wp_mono (K:=wpList P ops (Ib P ops Q T w fuel listed) []) (λa' w' J=>⟨λ_=>J.1,J.2 hc⟩) ?_;unfold Oper.wp at u ⊢;exact Yc (Q:=Ib P ops Q T w fuel listed) (λc a w G=>G.elim) (λG=>absurd G C) u
  .exact absurd u C
 .rename_i hw;simp only [hw]at u;exact ⟨λ_=>u.1,u.2 hc⟩
theorem htwo(i j:Nat)(hr:Region.ready .any l.toArray listed=[i,j])(hf:fuel=fuel'+1)(hi:nth l i=some oi)(hj:nth l j=some oj)(h1:WL P n l.toArray (Ib P l.toArray Q T w fuel' (listed.setIfInBounds i true)) [oi] al w)(h2:WL P n l.toArray (Ib P l.toArray Q T w fuel' (listed.setIfInBounds j true)) [oj] al w): WH P n l.toArray Q T fuel listed al w:=λC a G=>by
 subst hf;have O:l.toArray[i]?=some oi:=by rw [<-hi,Xk];simp
 have J:l.toArray[j]?=some oj:=by rw [<-hj,Xk];simp
 refine ⟨λh0=>(by rw [hr]at h0;cases h0),λk u=>?_⟩;have o:=u;rw [hr]at u;simp only [List.mem_cons,List.not_mem_nil,or_false]at u;rcases u with rfl|rfl
 .exact Jlf O (C.step o) h1 a G
 .exact Jlf J (C.step o) h2 a G
theorem hlist(e:listed=listed')(h:WH P n ops Q T fuel listed' al w): WH P n ops Q T fuel listed al w:=by subst e;exact h
theorem hcut{α:Type}(fuel':Nat)(L':Array Bool)(fr:α->AL)(I:α->World->Prop)(h2:∀ x w,I x w->WH P n ops Q T fuel' L' (fr x) w)(h1:(∀ x al w,I x w->Sub (fr x) al->WH P n ops Q T fuel' L' al w)->WH P n ops Q T fuel L al w): WH P n ops Q T fuel L al w:=h1 λx al w hi o=>(h2 x w hi).sub o
end
end Go.Wk
namespace Go.Wk
open Go.RowKit
variable {a b z:Int}{k1 kd:IntKind}{i x y:Operand}{k:TK}{t yt:TypeId}
section
variable {P:Program} {n:Nat} {al:AL} {w:World} {Q:Exit->Act->World->Prop} {ops:Array Oper} {rest:List Oper} {drest:List (Nat×Oper)}
variable {d ty:Nat} {op:Op} {pos:String} {aft:Array Edge} {tt:TT}
theorem Qyq(hT:TOk P tt){t m e sz:Nat}(ht:tk tt t=some k)(hk:k.desc=.array m e)(hz:k.esz=sz): P.underlying t=some (.array m e)/\Zn P e=some sz:=by
 have:=hT.at ht;unfold Ys at this;rw [hk]at this;subst hz;exact ⟨this.1,this.2.1⟩
theorem Jcw(hT:TOk P tt){t m e:Nat}{p:Addr}(j:Nat)(ht:tk tt t=some k)(hk:k.desc=.array m e)(hlt:j<m){a:Act}(ha:Fr n al a)(hx:ev al x=some (.pointer (some p)))(hi:ev al i=some (.int kd z))(hj:z=(j:Int))(dst:Option Nat)(w:World):
  (execOp a.eval ⟨dst,.indexAddr t x i,ty,pos,aft,none⟩).run P w=.ok (.value (.pointer (some (p.add (j*k.esz))))) w:=by
 obtain ⟨o,u⟩:=Qyq hT ht hk rfl;subst hj;simp [execOp,ha.ev hx,ha.ev hi,Instr.indexAt,asIntOf,run_underlying o,Vk w u,Instr.sureAddr];intro h;omega
theorem Qbz(h0:b≠0){e:Act}(he:Fr n al e)(hx:ev al x=some (.int k1 a))(hy:ev al y=some (.int k1 b))(dst:Option Nat)(w:World):
  (execOp e.eval ⟨dst,.binOp .rem t x y yt,ty,pos,aft,none⟩).run P w=.ok (.value (.int k1 (a.tmod b))) w:=by
 simp [execOp,he.ev hx,he.ev hy,eqGuard,binOp,Op.intDiv,h0]
theorem rem(h0:b≠0)(kk:WL P n ops Q rest ((d,.int k1 (a.tmod b))::al) w)(hx:ev al x=some (.int k1 a):=by rfl)(hy:ev al y=some (.int k1 b):=by rfl)(hd:Nat.blt d n=true:=by rfl):
  WL P n ops Q (⟨some d,.binOp .rem t x y yt,ty,pos,aft,none⟩::rest) al w:=wop hd (λe o=>Qbz h0 o hx hy (some d) w) kk
end
end Go.Wk
namespace Go.Proofs.YtebcagekopgdhaaGreatDoor
namespace Pl
variable {a b l:List UInt32}{i m n:Nat}{c:UInt32}
def val: List UInt32->Nat
 | []=>0
 | c::l=>c.toNat+4294967296*val l
def Jq(n:Nat): List UInt32:=if h:n=0 then [] else UInt32.ofNat n::Jq (n / 4294967296)
termination_by n
decreasing_by exact Nat.div_lt_self om (by decide)
theorem limbs_0: Jq 0=[]:=by rw [Jq];rfl
theorem Jyf(h:n≠0): Jq n=UInt32.ofNat n::Jq (n / 4294967296):=by rw [Jq,dif_neg h]
theorem Qld(h:c.toNat+4294967296*m≠0): Jq (c.toNat+4294967296*m)=c::Jq m:=by
 have o:=c.toNat_lt;rw [Jyf h];congr 1
 .apply UInt32.toNat_inj.1
  rw [UInt32.toNat_ofNat'];have:c.toNat<4294967296:=o;omega
 .congr 1
  have:c.toNat<4294967296:=o;omega
def Xb: List UInt32->List UInt32
 | []=>[]
 | c::l=>if Xb l=[]/\c=0 then [] else c::Xb l
theorem val_0(h:Xb l=[]): val l=0:=by
 induction l with
 | nil=>rfl
 | cons c l ih=>
  simp only [Xb]at h;split at h
  .rename_i h2;rw [val,ih h2.1,h2.2];rfl
  .cases h
theorem Kf: ∀ l:List UInt32,Xb l=Jq (val l)
 | []=>by rw [val,limbs_0];rfl
 | c::l=>by
  have ih:=Kf l;simp only [Xb,val];split
  .rename_i h;rw [val_0 h.1,h.2];exact limbs_0.symm
  .rename_i h;rw [Qld,ih];intro h0;apply h
   have hv:val l=0:=om
   refine ⟨?_,?_⟩
   .rw [ih,hv,limbs_0]
   .apply UInt32.toNat_inj.1
    show c.toNat=0;omega
theorem Zm(n:Nat): val (Jq n)=n:=by
 induction n using Nat.strongRecOn with
 | ind n ih=>
  by_cases h:n=0
  .subst h;rw [limbs_0];rfl
  .rw [Jyf h,val,ih (n / 4294967296) (Nat.div_lt_self om (by decide)),UInt32.toNat_ofNat'];omega
theorem Qvx(n:Nat): Xb (Jq n)=Jq n:=by rw [Kf,Zm]
theorem Jmn(l:List UInt32): Xb (l++[0])=Xb l:=by
 induction l with
 | nil=>rfl
 | cons c l ih=>simp only [List.cons_append,Xb,ih]
theorem Qvw(l:List UInt32)(h:c≠0): Xb (l++[c])=l++[c]:=by
 induction l with
 | nil=>simp [Xb,h]
 | cons d l ih=>simp only [List.cons_append,Xb,ih];simp
theorem Iw(a b:List UInt32): val (a++b)=val a+4294967296^a.length*val b:=by
 induction a with
 | nil=>simp [val]
 | cons c a ih=>rw [List.cons_append,val,val,ih,List.length_cons,Nat.pow_succ,Nat.mul_add,<-Nat.mul_assoc,Nat.mul_comm (4294967296^a.length) 4294967296];omega
theorem Jbw(a:List UInt32): val a<4294967296^a.length:=by
 induction a with
 | nil=>simp [val]
 | cons c a ih=>
  have o:c.toNat<4294967296:=c.toNat_lt;rw [val,List.length_cons,Nat.pow_succ];have:4294967296*(val a+1)<=4294967296*4294967296^a.length:=Nat.mul_le_mul_left _ ih;rw [Nat.mul_comm (4294967296^a.length)];omega
theorem Qvq(l:List UInt32)(h:c≠0): 4294967296^l.length<=val (l++[c]):=by
 have o:0<c.toNat:=by
  rcases Nat.eq_zero_or_pos c.toNat with h0|h0
  .exact absurd (UInt32.toNat_inj.1 h0) h
  .exact h0
 rw [Iw,val];have:4294967296^l.length*1<=4294967296^l.length*(c.toNat+4294967296*val []):=Nat.mul_le_mul_left _ om;omega
theorem Qlc(h:n≠0): ∃ l c,Jq n=l++[c]/\c≠0:=by
 rcases List.eq_nil_or_concat (Jq n) with h0|⟨l,c,h0⟩
 .have:=Zm n;rw [h0]at this;exact absurd this.symm h
 .refine ⟨l,c,by rw [h0];simp,λC=>?_⟩;subst C;have o:=Qvx n;rw [h0,List.concat_eq_append,Jmn]at o;have u:=congrArg List.length o;have G:(Xb l).length<=l.length:=by
   clear o u h0;induction l with
   | nil=>simp [Xb]
   | cons c l ih=>simp only [Xb];split<;>simp;exact ih
  simp at u;omega
theorem Jtb(h:n≠0): 4294967296^((Jq n).length-1)<=n:=by
 obtain ⟨l,c,o,u⟩:=Qlc h;have:=Qvq l u;rw [<-o,Zm]at this;rw [o];simpa using this
theorem Qlb(n:Nat): n<4294967296^(Jq n).length:=by have:=Jbw (Jq n);rwa [Zm]at this
theorem Jdw(h:(Jq n).length<(Jq m).length): n<m:=by
 have o:m≠0:=λe=>by subst e;rw [limbs_0]at h;simp at h
 have G:=Jtb o;have C:=Qlb n;have u:4294967296^(Jq n).length<=4294967296^((Jq m).length-1):=Nat.pow_le_pow_right (by decide) om;omega
def Yv(n m:Nat): Int:=if n<m then -1 else if m<n then 1 else 0
theorem Jmh(ha:i<a.length)(hab:a.length=b.length)(ht:a.drop (i+1)=b.drop (i+1))(hl:(a.getD i 0).toNat<(b.getD i 0).toNat): val a<val b:=by
 have o:i<b.length:=om
 have O:a=a.take i++(a.getD i 0::a.drop (i+1)):=by
  have e:a.getD i 0=a[i]:=by simp [List.getD,List.getElem?_eq_getElem ha]
  rw [e,<-List.drop_eq_getElem_cons ha,List.take_append_drop]
 have J:b=b.take i++(b.getD i 0::b.drop (i+1)):=by
  have e:b.getD i 0=b[i]:=by simp [List.getD,List.getElem?_eq_getElem o]
  rw [e,<-List.drop_eq_getElem_cons o,List.take_append_drop]
 rw [O,J,Iw,Iw,val,val,ht];have G:(a.take i).length=i:=by rw [List.length_take];omega
 have C:(b.take i).length=i:=by rw [List.length_take];omega
 have u:=Jbw (a.take i);rw [G]at u ⊢;rw [C];have:4294967296^i*((a.getD i 0).toNat+1+4294967296*val (b.drop (i+1)))<=4294967296^i*((b.getD i 0).toNat+4294967296*val (b.drop (i+1))):=Nat.mul_le_mul_left _ om;rw [Nat.add_assoc,Nat.add_comm 1,<-Nat.add_assoc,Nat.mul_add,Nat.mul_one]at this;omega
end Pl
open Go.RowKit Go.Wk
def tt: TT:=[(3,{ desc:=.int .i64 }),
 (2,{ desc:=.int .i64 }),
 (5,{ desc:=.int .u8 }),
 (23,{ desc:=.int .u16 }),
 (110,{ desc:=.int .u32 }),
 (22,{ desc:=.int .u64 }),
 (111,{ desc:=.int .u64 }),
 (4,{ desc:=.bool }),
 (9,{ desc:=.string }),
 (38,{ desc:=.int .i64 }),
 (256,{ desc:=.int .i64 }),
 (270,{ desc:=.int .u64 }),
 (29,{ desc:=.slice 110,esz:=1 }),
 (24,{ desc:=.slice 4,esz:=1 }),
 (44,{ desc:=.slice 3,esz:=1 }),
 (248,{ desc:=.slice 5,esz:=1 }),
 (28,{ desc:=.slice 110,esz:=1 }),
 (37,{ desc:=.slice 47,esz:=3 }),
 (36,{ desc:=.slice 47,esz:=3 }),
 (54,{ desc:=.slice 37,esz:=1 }),
 (50,{ desc:=.slice 44,esz:=1 }),
 (51,{ desc:=.slice 54,esz:=1 }),
 (25,{ desc:=.slice 187,esz:=3 }),
 (90,{ desc:=.slice 99,esz:=3 }),
 (134,{ desc:=.slice 140,esz:=3 }),
 (26,{ desc:=.slice 134,esz:=1 }),
 (27,{ desc:=.slice 219,esz:=1 }),
 (154,{ desc:=.slice 205,esz:=1 }),
 (155,{ desc:=.slice 213,esz:=1 }),
 (206,{ desc:=.slice 247,esz:=2 }),
 (282,{ desc:=.slice 288,esz:=1 }),
 (279,{ desc:=.slice 282,esz:=1 }),
 (283,{ desc:=.slice 297,esz:=2 }),
 (312,{ desc:=.slice 29,esz:=1 }),
 (47,{ desc:=.invalid,size:=3,offs:=[0,1,2] }),
 (95,{ desc:=.invalid,size:=2,offs:=[0,1] }),
 (99,{ desc:=.invalid,size:=3,offs:=[0,1] }),
 (92,{ desc:=.invalid,size:=5,offs:=[0,1,2,3,4] }),
 (31,{ desc:=.invalid,size:=5,offs:=[0,1,2,3,4] }),
 (53,{ desc:=.invalid,size:=6,offs:=[0,1,2,3,4,5] }),
 (119,{ desc:=.invalid,size:=5,offs:=[0,1,2,3,4] }),
 (187,{ desc:=.invalid,size:=3,offs:=[0,1,2] }),
 (149,{ desc:=.invalid,size:=2,offs:=[0,1] }),
 (138,{ desc:=.invalid,size:=2,offs:=[0,1] }),
 (231,{ desc:=.invalid,size:=4,offs:=[0,3] }),
 (233,{ desc:=.invalid,size:=9,offs:=[0,4,5,6,7,8] }),
 (140,{ desc:=.invalid,size:=3,offs:=[0,1] }),
 (247,{ desc:=.invalid,size:=2,offs:=[0,1] }),
 (157,{ desc:=.invalid,size:=10,offs:=[0,5,6,7,8,9] }),
 (175,{ desc:=.invalid,size:=9,offs:=[0,5,6,7,8] }),
 (61,{ desc:=.invalid,size:=7,offs:=[0,5,6] }),
 (281,{ desc:=.invalid,size:=4,offs:=[0,1,2,3] }),
 (297,{ desc:=.invalid,size:=2,offs:=[0,1] }),
 (285,{ desc:=.invalid,size:=1,offs:=[0] }),
 (300,{ desc:=.invalid,size:=2,offs:=[0,1] }),
 (303,{ desc:=.invalid,size:=69,offs:=[0,1,2,4,68] }),
 (168,{ desc:=.pointer 175 }),
 (136,{ desc:=.pointer 233 }),
 (204,{ desc:=.pointer 157 }),
 (215,{ desc:=.pointer 140 }),
 (278,{ desc:=.pointer 281 }),
 (288,{ desc:=.pointer 303 }),
 (274,{ desc:=.pointer 3 }),
 (292,{ desc:=.pointer 270 }),
 (198,{ desc:=.array 32 3,size:=32,esz:=1 }),
 (199,{ desc:=.array 32 110,size:=32,esz:=1 }),
 (301,{ desc:=.array 32 300,size:=64,esz:=2 }),
 (308,{ desc:=.array 24 5,size:=24,esz:=1 }),
 (193,{ desc:=.func #[37] #[4] false }),
 (219,{ desc:=.map 9 3 }),
 (205,{ desc:=.map 9 4 }),
 (213,{ desc:=.map 9 29 }),
 (173,{ desc:=.map 3 138 }),
 (234,{ desc:=.func #[136] #[3] false })]
theorem Jzh: TOk Tryz.prog tt:=⟨⟨kr,kr⟩,
 ⟨kr,kr⟩,
 ⟨kr,kr⟩,
 ⟨kr,kr⟩,
 ⟨kr,kr⟩,
 ⟨kr,kr⟩,
 ⟨kr,kr⟩,
 ⟨kr,kr⟩,
 ⟨kr,kr⟩,
 ⟨kr,kr⟩,
 ⟨kr,kr⟩,
 ⟨kr,kr⟩,
 ⟨kr,kr,kr⟩,
 ⟨kr,kr,kr⟩,
 ⟨kr,kr,kr⟩,
 ⟨kr,kr,kr⟩,
 ⟨kr,kr,kr⟩,
 ⟨kr,kr,kr⟩,
 ⟨kr,kr,kr⟩,
 ⟨kr,kr,kr⟩,
 ⟨kr,kr,kr⟩,
 ⟨kr,kr,kr⟩,
 ⟨kr,kr,kr⟩,
 ⟨kr,kr,kr⟩,
 ⟨kr,kr,kr⟩,
 ⟨kr,kr,kr⟩,
 ⟨kr,kr,kr⟩,
 ⟨kr,kr,kr⟩,
 ⟨kr,kr,kr⟩,
 ⟨kr,kr,kr⟩,
 ⟨kr,kr,kr⟩,
 ⟨kr,kr,kr⟩,
 ⟨kr,kr,kr⟩,
 ⟨kr,kr,kr⟩,
 ⟨_,Tryz.underlying47,kr,kr⟩,
 ⟨_,Tryz.underlying95,kr,kr⟩,
 ⟨_,Tryz.underlying99,kr,kr⟩,
 ⟨_,Tryz.underlying92,kr,kr⟩,
 ⟨_,Tryz.underlying31,kr,kr⟩,
 ⟨_,Tryz.underlying53,kr,kr⟩,
 ⟨_,Tryz.underlying119,kr,kr⟩,
 ⟨_,Tryz.underlying187,kr,kr⟩,
 ⟨_,Tryz.underlying149,kr,kr⟩,
 ⟨_,Tryz.underlying138,kr,kr⟩,
 ⟨_,Tryz.underlying231,kr,kr⟩,
 ⟨_,Tryz.underlying233,kr,kr⟩,
 ⟨_,Tryz.underlying140,kr,kr⟩,
 ⟨_,Tryz.underlying247,kr,kr⟩,
 ⟨_,Tryz.underlying157,kr,kr⟩,
 ⟨_,Tryz.underlying175,kr,kr⟩,
 ⟨_,Tryz.underlying61,kr,kr⟩,
 ⟨_,Tryz.underlying281,kr,kr⟩,
 ⟨_,Tryz.underlying297,kr,kr⟩,
 ⟨_,Tryz.underlying285,kr,kr⟩,
 ⟨_,Tryz.underlying300,kr,kr⟩,
 ⟨_,Tryz.underlying303,kr,kr⟩,
 ⟨kr,kr⟩,
 ⟨kr,kr⟩,
 ⟨kr,kr⟩,
 ⟨kr,kr⟩,
 ⟨kr,kr⟩,
 ⟨kr,kr⟩,
 ⟨kr,kr⟩,
 ⟨kr,kr⟩,
 ⟨kr,kr,kr⟩,
 ⟨kr,kr,kr⟩,
 ⟨kr,kr,kr⟩,
 ⟨kr,kr,kr⟩,
 ⟨kr,kr⟩,
 ⟨kr,kr⟩,
 ⟨kr,kr⟩,
 ⟨kr,kr⟩,
 ⟨kr,kr⟩,
 ⟨kr,kr⟩,trivial⟩
theorem mixed: Tryz.prog.follows .mixedOrders=true:=kr
instance:Tab Tryz.prog tt:=⟨Jzh,mixed⟩
theorem EN: ElT Tryz.prog 29 110 1 4 (.int .u32 0):=⟨Tryz.underlying29,info_parts kr,rfl,by decide⟩
theorem EV: ElT Tryz.prog 37 47 3 32 (.agg #[.int .i64 0,.int .i64 0,.string ⟨#[]⟩]):=⟨Tryz.underlying37,info_parts kr,rfl,by decide⟩
theorem ER: ElT Tryz.prog 54 37 1 24 (.slice none 0 0):=⟨Tryz.underlying54,info_parts kr,rfl,by decide⟩
theorem bsN(x y:Int)(w:World): (Instr.buildSlice 29 2 #[(0,.int .u32 x),(1,.int .u32 y)]).run Tryz.prog w=.ok (.slice (some ⟨w.heap.size,0,none⟩) 2 2) (w.alloc (.cells #[.int .u32 x,.int .u32 y] 110)):=kr
open Go.RowKit Pl Go.Wk
attribute [local irreducible] WC WL QX WD WDB
variable {l:List UInt32}{c k m n:Nat}{A:Option Addr}{a b:UInt32}{u v:Value}{w:World}
def Nc(l:List UInt32): List Value:=l.map λc=>.int .u32 (c.toNat:Int)
theorem Xqr(l:List UInt32): (Nc l).length=l.length:=by simp [Nc]
theorem Zl(h:k<l.length): (Nc l)[k]?=some (.int .u32 ((l.getD k 0).toNat:Int)):=by simp [Nc,List.getD,List.getElem?_eq_getElem h]
theorem Xqq(l:List UInt32)(k:Nat): (Nc l).take k=Nc (l.take k):=by simp [Nc]
theorem Jhq(l:List UInt32): ∀ u∈Nc l,u.oneCell'=true:=by
 intro u o;simp [Nc]at o;obtain ⟨c,_,rfl⟩:=o;rfl
def NatV(w:World)(v:Value)(n:Nat): Prop:=∃ A c,v=.slice A (Jq n).length c/\(Jq n).length<=c/\(Jq n).length<=4611686018427387904/\Rd w 1 A (Jq n).length (Nc (Jq n))
theorem NatV.ext{w w':World}{v:Value}{n:Nat}(h:NatV w v n)(hx:Ext w w'): NatV w' v n:=by
 obtain ⟨A,c,G,C,u,o⟩:=h;exact ⟨A,c,G,C,u,o.ext hx⟩
theorem NatV.nil(w:World): NatV w (.slice none 0 0) 0:=⟨none,0,by rw [limbs_0];rfl,by rw [limbs_0];simp,by rw [limbs_0];simp,by rw [limbs_0];exact Rd.nil⟩
theorem Jbz: ∀ l:List UInt32,Xb l=l.take (Xb l).length
 | []=>rfl
 | c::l=>by
  simp only [Xb];split
  .rfl
  .rw [List.length_cons,List.take_succ_cons,<-Jbz l]
theorem Jmp(l:List UInt32): (Xb l).length<=l.length:=by
 have:=congrArg List.length (Jbz l);rw [List.length_take]at this;omega
theorem Jqh(hr:Rd w 1 A l.length (Nc l))(hm:l.length<=4611686018427387904): NatV w (.slice A (Jq (val l)).length (Jq (val l)).length) (val l):=by
 have h:=hr.take (m:=(Xb l).length) (Jmp l);rw [Nat.mul_one,Xqq,<-Jbz]at h;have:=Jmp l;rw [<-Kf];exact ⟨A,(Xb l).length,by rw [<-Kf],by rw [<-Kf];exact Nat.le_refl _,by rw [<-Kf];omega,by rw [<-Kf];exact h⟩
theorem Iv(hr:Rd w 1 A l.length (Nc l))(hc:l.length<=c)(hm:l.length<=4611686018427387904):
  Ret Tryz.prog 52 [.slice A l.length c] w λv w'=>v=.slice A (Jq (val l)).length (Jq (val l)).length/\w'=w:=by
 refine Jz Tryz.func52 Tryz.ntmps52 rfl kr rfl ?_;refine ρ ?_;have J:∀ k,k<=l.length->Xb (l.take k)=Xb l->Xb (l.take k)=l.take k->k=(Jq (val l)).length:=λk G h1 h2=>by
  rw [<-Kf,<-h1,h2,List.length_take];omega
 refine Qd (λk=>[(0,.slice A l.length c),(3,.int .i64 ((k:Nat):Int))]) (λk w'=>w'=w/\k<=l.length/\Xb (l.take k)=Xb l) (λk=>k) l.length sB ⟨rfl,Nat.le_refl _,by rw [List.take_length]⟩ ?_;rintro k w' ⟨rfl,G,hn⟩;have done:∀ k,k=(Jq (val l)).length->k<=l.length->(Value.slice A k k)=.slice A (Jq (val l)).length (Jq (val l)).length:=λk h _=>by rw [h]
 refine ρ ?_;refine ki 8 (λh=>?_) (λh=>?_)
 .have Z:0<k:=by have:=oT h;omega
  have o:k-1<l.length:=om
  have C:l.take k=l.take (k-1)++[l.getD (k-1) 0]:=by
   have e:=List.take_succ_eq_append_getElem o;rw [show k-1+1=k by omega]at e;rw [e];simp [List.getD,List.getElem?_eq_getElem o]
  refine ρ ?_;refine ix (k-1) hr o ?_;refine ρ ?_;refine ld (hr.cell (Zl o)) ?_;refine ρ ?_;refine ci (λh0=>?_) (λh0=>?_)
  .have O:l.getD (k-1) 0=0:=by
    have:=Xl h0;apply UInt32.toNat_inj.1
    show (l.getD (k-1) 0).toNat=0;omega
   refine ρ ?_;refine Qw (k-1) sO ⟨rfl,om,?_⟩ om;rw [<-hn,C,O,Jmn]
  .have O:l.getD (k-1) 0≠0:=by
    have:=Xm h0;intro e;rw [e]at this;exact this rfl
   have u:=J k G hn (by rw [C];exact Qvw _ O);refine ρ ?_;refine Jwp Jzh 0 k k A k k rfl rfl rfl rfl rfl ⟨_,_,rfl,rfl⟩ ⟨_,_,rfl,rfl⟩ (.inr (by simp)) (Nat.zero_le _) (Nat.le_refl _) om (cut0 A _ _) rfl rfl rfl ?_;refine ρ ?_;exact Jj ⟨done k u G,rfl⟩
 .have U:k=0:=by have:=oF h;omega
  subst U;have u:=J 0 G hn rfl;refine ρ ?_;refine Jwp Jzh 0 0 0 A 0 0 rfl rfl rfl rfl rfl ⟨_,_,rfl,rfl⟩ ⟨_,_,rfl,rfl⟩ (.inr (by simp)) (Nat.zero_le _) (Nat.le_refl _) om (cut0 A _ _) rfl rfl rfl ?_;refine ρ ?_;exact Jj ⟨done 0 u G,rfl⟩
theorem Ub(h:NatV w v n): Ret Tryz.prog 52 [v] w λv' w'=>(∃ A,v'=.slice A (Jq n).length (Jq n).length/\Rd w 1 A (Jq n).length (Nc (Jq n)))/\w'=w:=by
 obtain ⟨A,c,rfl,C,u,o⟩:=h;refine (Iv o C u).mono ?_;rintro v w' ⟨rfl,rfl⟩;rw [Zm];exact ⟨⟨A,rfl,o⟩,rfl⟩
theorem Uy(n:Nat): IntKind.u32.wrap (n:Int)=((UInt32.ofNat n).toNat:Int):=by
 rw [UInt32.toNat_ofNat',IntKind.wrap_u32];omega
theorem Jmm(n:Nat): IntKind.u32.wrap ((n:Int).fdiv (2^min (32:Int).toNat IntKind.u64.bits))=((UInt32.ofNat (n / 4294967296)).toNat:Int):=by
 have e:(2:Int)^min (32:Int).toNat IntKind.u64.bits=((4294967296:Nat):Int):=by decide
 rw [e,Int.fdiv_eq_ediv_of_nonneg _ (Int.natCast_nonneg _),UInt32.toNat_ofNat',IntKind.wrap_u32];omega
theorem Jmg(n:Nat)(h:n<18446744073709551616): val [UInt32.ofNat n,UInt32.ofNat (n / 4294967296)]=n:=by
 simp only [val,UInt32.toNat_ofNat'];omega
theorem Qgz(n:Nat)(h:n<18446744073709551616)(w:World): Ret Tryz.prog 16 [.int .u64 (n:Int)] w λv w'=>NatV w' v n/\Ext w w':=by
 refine Jz Tryz.func16 Tryz.ntmps16 rfl kr rfl ?_;refine ρ ?_;refine Ym rfl rfl (by decide) rfl ?_;refine ρ ?_;refine bsl (bsN _ _) ?_;intro G b u J o;rw [Uy,Jmm]at o;have C:Rd G 1 (some ⟨b,0,none⟩) 2 (Nc [UInt32.ofNat n,UInt32.ofNat (n / 4294967296)]):=o.rd rfl;refine ρ ?_;refine cl (Iv (l:=[UInt32.ofNat n,UInt32.ofNat (n / 4294967296)]) (c:=2) C (Nat.le_refl _) (by simp)) ?_;rintro v O ⟨rfl,rfl⟩;have:=Jqh C (by simp);rw [Jmg n h]at this ⊢;refine ρ ?_;exact Jj ⟨this,u⟩
def sgn(a b:Int): Int:=if a<b then -1 else if b<a then 1 else 0
theorem Jtq(x:Int)(w:World): Ret Tryz.prog 103 [.int .i64 x] w λv w'=>v=.bool false/\w'=w:=by
 refine Jz Tryz.func103 Tryz.ntmps103 rfl kr rfl ?_;refine ρ ?_;refine Jj ⟨?_,rfl⟩;simp
theorem Qql(x y:Int)(w:World): Ret Tryz.prog 54 [.int .i64 x,.int .i64 y] w λv w'=>v=.int .i64 (sgn x y)/\w'=w:=by
 refine Jz Tryz.func54 Tryz.ntmps54 rfl kr rfl ?_;refine ρ ?_;refine cl (Jtq x w) ?_;rintro v w' ⟨rfl,rfl⟩;refine ρ ?_;refine cl (Jtq y w') ?_;rintro v u ⟨rfl,rfl⟩;refine ρ ?_;refine ci (λh=>?_) (λh=>?_)
 .refine ρ ?_;refine Jj ⟨?_,rfl⟩;rw [sgn,if_pos (oT h)]
 .refine ρ ?_;refine ci (λo=>?_) (λo=>?_)
  .refine ρ ?_;refine Jj ⟨?_,rfl⟩;rw [sgn,if_neg (oF h),if_pos (oT o)]
  .refine ρ ?_;refine Jj ⟨?_,rfl⟩;rw [sgn,if_neg (oF h),if_neg (oF o)]
theorem Jtp(x:Int)(w:World): Ret Tryz.prog 104 [.int .u32 x] w λv w'=>v=.bool false/\w'=w:=by
 refine Jz Tryz.func104 Tryz.ntmps104 rfl kr rfl ?_;refine ρ ?_;refine Jj ⟨?_,rfl⟩;simp
theorem Qpv(x y:Int)(w:World): Ret Tryz.prog 55 [.int .u32 x,.int .u32 y] w λv w'=>v=.int .i64 (sgn x y)/\w'=w:=by
 refine Jz Tryz.func55 Tryz.ntmps55 rfl kr rfl ?_;refine ρ ?_;refine cl (Jtp x w) ?_;rintro v w' ⟨rfl,rfl⟩;refine ρ ?_;refine cl (Jtp y w') ?_;rintro v u ⟨rfl,rfl⟩;refine ρ ?_;refine ci (λh=>?_) (λh=>?_)
 .refine ρ ?_;refine Jj ⟨?_,rfl⟩;rw [sgn,if_pos (oT h)]
 .refine ρ ?_;refine ci (λo=>?_) (λo=>?_)
  .refine ρ ?_;refine Jj ⟨?_,rfl⟩;rw [sgn,if_neg (oF h),if_pos (oT o)]
  .refine ρ ?_;refine Jj ⟨?_,rfl⟩;rw [sgn,if_neg (oF h),if_neg (oF o)]
theorem Jtr(x:Int)(w:World): Ret Tryz.prog 171 [.int .i64 x] w λv w'=>v=.bool false/\w'=w:=by
 refine Jz Tryz.func171 Tryz.ntmps171 rfl kr rfl ?_;refine ρ ?_;refine Jj ⟨?_,rfl⟩;simp
theorem Qpw(x y:Int)(w:World): Ret Tryz.prog 148 [.int .i64 x,.int .i64 y] w λv w'=>v=.int .i64 (sgn x y)/\w'=w:=by
 refine Jz Tryz.func148 Tryz.ntmps148 rfl kr rfl ?_;refine ρ ?_;refine cl (Jtr x w) ?_;rintro v w' ⟨rfl,rfl⟩;refine ρ ?_;refine cl (Jtr y w') ?_;rintro v u ⟨rfl,rfl⟩;refine ρ ?_;refine ci (λh=>?_) (λh=>?_)
 .refine ρ ?_;refine Jj ⟨?_,rfl⟩;rw [sgn,if_pos (oT h)]
 .refine ρ ?_;refine ci (λo=>?_) (λo=>?_)
  .refine ρ ?_;refine Jj ⟨?_,rfl⟩;rw [sgn,if_neg (oF h),if_pos (oT o)]
  .refine ρ ?_;refine Jj ⟨?_,rfl⟩;rw [sgn,if_neg (oF h),if_neg (oF o)]
theorem Jnt(n m:Nat): sgn (n:Int) (m:Int)=Yv n m:=by
 unfold sgn Yv;by_cases h:n<m
 .rw [if_pos om,if_pos h]
 .rw [if_neg om,if_neg h];by_cases h2:m<n
  .rw [if_pos om,if_pos h2]
  .rw [if_neg om,if_neg h2]
theorem Qvt(h:((a.toNat:Int) != (b.toNat:Int))=false): a=b:=by
 have:(a.toNat:Int)=b.toNat:=by simpa using h
 apply UInt32.toNat_inj.1;omega
theorem Qvs(h:((a.toNat:Int) != (b.toNat:Int))=true): a.toNat≠b.toNat:=by
 intro e;rw [e]at h;simp at h
theorem Kn(hv:NatV w v n)(hu:NatV w u m): Ret Tryz.prog 18 [v,u] w λr w'=>r=.int .i64 (Yv n m)/\Ext w w':=by
 have a6:=hv;have a7:=hu;obtain ⟨_,_,_,_,aa,_⟩:=a6;obtain ⟨_,_,_,_,ab,_⟩:=a7;refine Jz Tryz.func18 Tryz.ntmps18 rfl kr rfl ?_;refine ρ ?_;refine cl (Ub hv) ?_;rintro v' w' ⟨⟨A,rfl,ha⟩,rfl⟩;refine ρ ?_;refine cl (Ub hu) ?_;rintro u' a5 ⟨⟨B,rfl,hb⟩,rfl⟩;refine ρ ?_;refine ci (λh=>?_) (λh=>?_)
 .refine ρ ?_;refine cl (Qql _ _ _) ?_;rintro t w1 ⟨rfl,rfl⟩;refine ρ ?_;refine Jj ⟨?_,Ext.refl _⟩;rw [Jnt];have U:(Jq n).length≠(Jq m).length:=by intro e;rw [e]at h;simp at h
  unfold Yv;rcases Nat.lt_or_gt_of_ne U with h1|h1
  .rw [if_pos h1,if_pos (Jdw h1)]
  .have:=Jdw h1;rw [if_neg om,if_pos h1,if_neg om,if_pos this]
 .have J:(Jq n).length=(Jq m).length:=by
   have:((Jq n).length:Int)=(Jq m).length:=by simpa using h
   omega
  refine ρ ?_;refine Qd (λk=>[(0,.slice A (Jq n).length (Jq n).length),(1,.slice B (Jq m).length (Jq m).length),(5,.int .i64 ((k:Nat)-1:Int))]) (λk w'=>Ext a5 w'/\k<=(Jq n).length/\(Jq n).drop k=(Jq m).drop k) (λk=>k) (Jq n).length sB
   ⟨Ext.refl _,Nat.le_refl _,by rw [List.drop_length,J,List.drop_length]⟩ ?_
  rintro k w1 ⟨hx,hk,hd⟩;refine ρ ?_;refine ci (λh=>?_) (λh=>?_)
  .have a9:0<k:=by have:=oT h;omega
   have C:k-1<(Jq n).length:=om
   have o:k-1<(Jq m).length:=om
   have O:=hx.trans ((Ext.refl w1).drew);have a4:=ha.ext O;have a2:=hb.ext O;refine ρ ?_;refine dr [(0,0),(0,1),(0,2),(0,3),(0,4),(0,5),(0,6),(0,7),(0,8)] kr ?_;refine ρd ?_;refine dix (k-1) a4 C ?_;refine ρd ?_;refine dld (a4.cell (Zl C)) ?_;refine ρd ?_;refine dix (k-1) a2 o ?_;refine ρd ?_;refine dld (a2.cell (Zl o)) ?_;refine ρd ?_;refine ρ ?_;refine ci (λh=>?_) (λh=>?_)
   .have U:=Qvs h;have G:=O.trans ((Ext.refl w1.drew).drew);have a3:=ha.ext G;have a1:=hb.ext G;refine ρ ?_;refine dr [(0,0),(0,1),(0,2),(0,3),(0,4),(0,5),(0,6),(0,7),(1,8),(0,9)] kr ?_;refine ρd ?_;refine dix (k-1) a3 C ?_;refine ρd ?_;refine dld (a3.cell (Zl C)) ?_;refine ρd ?_;refine dix (k-1) a1 o ?_;refine ρd ?_;refine dld (a1.cell (Zl o)) ?_;refine ρd ?_;refine dcl (Qpv _ _ _) ?_;rintro t w2 ⟨rfl,rfl⟩;refine ⟨Ext.refl _,?_⟩;refine ρd ?_;refine ρ ?_;refine Jj ⟨?_,G⟩;rw [Jnt];unfold Yv;have Z:(Jq n).drop (k-1+1)=(Jq m).drop (k-1+1):=by rw [show k-1+1=k by omega];exact hd
    rcases Nat.lt_or_gt_of_ne U with h1|h1
    .have:=Jmh C J Z h1;rw [Zm,Zm]at this;rw [if_pos h1,if_pos this]
    .have:=Jmh o J.symm Z.symm h1;rw [Zm,Zm]at this;rw [if_neg om,if_pos h1,if_neg om,if_pos this]
   .have he:=Qvt h;refine ρ ?_;refine Qw (k-1) sO ⟨O,om,?_⟩ om;rw [List.drop_eq_getElem_cons C,List.drop_eq_getElem_cons o,show k-1+1=k by omega,hd];congr 1
    have e1:(Jq n).getD (k-1) 0=(Jq n)[k-1]:=by simp [List.getD,List.getElem?_eq_getElem C]
    have e2:(Jq m).getD (k-1) 0=(Jq m)[k-1]:=by simp [List.getD,List.getElem?_eq_getElem o]
    rw [<-e1,<-e2,he]
  .have a8:k=0:=by have:=oF h;omega
   subst a8;have:n=m:=by rw [<-Zm n,<-Zm m];exact congrArg val hd
   subst this;refine ρ ?_;refine Jj ⟨?_,hx⟩;simp [Yv]
end Go.Proofs.YtebcagekopgdhaaGreatDoor
namespace Go.Wk
open Go.RowKit
variable {c e m t t2:Nat}
section
variable {P:Program} {n:Nat} {al:AL} {w:World} {Q:Exit->Act->World->Prop} {ops:Array Oper} {rest:List Oper}
variable {d ty:Nat} {op:Op} {pos:String} {aft:Array Edge} {tt:TT}
theorem Il[h:Tab P tt]{x:Operand}{k:TK}{A:Option Addr}(kk:WL P n ops Q rest ((d,.bool A.isNone)::al) w)(ht:tk tt t=some k:=by rfl)(hk:k.desc=.slice e:=by rfl)(hx:ev al x=some (.slice A m c):=by rfl)(hd:Nat.blt d n=true:=by rfl): WL P n ops Q (⟨some d,.binOp .eql t x (.const (.slice none 0 0)) t2,ty,pos,aft,none⟩::rest) al w :=
 wop hd (λa u=>by
  have o:=(Kl h.ok ht hk rfl).1;have C:a.eval (.const (.slice none 0 0))=.slice none 0 0:=rfl;simp [execOp,u.ev hx,C,eqGuard,binOp,run_equal_slice_nil w t e A m c o]) kk
end
end Go.Wk
namespace Go.Proofs.YtebcagekopgdhaaGreatDoor
open Go.RowKit Pl Go.Wk
attribute [local irreducible] WC WL QX WD WDB
variable {cs:List Value}{c n:Nat}{A:Option Addr}{w:World}
theorem EB: ElT Tryz.prog 24 4 1 1 (.bool false):=⟨Tryz.underlying24,info_parts kr,rfl,by decide⟩
theorem EI: ElT Tryz.prog 44 3 1 8 (.int .i64 0):=⟨Tryz.underlying44,info_parts kr,rfl,by decide⟩
theorem Qzc(w:World): (Instr.buildSlice 24 0 #[]).run Tryz.prog w=.ok (.slice (some ⟨w.heap.size,0,none⟩) 0 0) (w.alloc (.cells ([]:List Value).toArray 4)):=kr
theorem Xqs(hr:Rd w 1 A n cs)(h1:∀ u∈cs,u.oneCell'=true)(hb:n*1<=140737488355328):
  Ret Tryz.prog 118 [.slice A n c] w λv w'=>(∃ A' c',v=.slice A' n c'/\n<=c'/\Rd w' 1 A' n cs)/\Ext w w':=by
 refine Jz Tryz.func118 Tryz.ntmps118 rfl kr rfl ?_;refine ρ ?_;refine Il ?_;refine ρ ?_;refine ci (λh=>?_) (λh=>?_)
 .have Z:A=none:=by simpa using h
  subst Z;have hn:n=0:=by
   rcases Nat.eq_zero_or_pos n with h0|h0
   .exact h0
   .obtain ⟨ad,h2,_⟩:=hr.isome h0 om;cases h2
  subst hn;refine ρ ?_;exact Jj ⟨⟨none,0,rfl,Nat.le_refl _,hr⟩,Ext.refl w⟩
 .refine ρ ?_;refine bsl Qzc ?_;intro w1 b C U O;refine ρ ?_;refine apo C EB (O.own (n:=0) U rfl (Nat.zero_le _)) (hr.ext C) h1 (by unfold maxLen;omega) om ?_;intro v2 w2 o J _ _;obtain ⟨A2,c2,rfl,G,_⟩:=Jv o;refine ρ ?_;rw [Nat.zero_add]at o G ⊢;exact Jj ⟨⟨A2,c2,rfl,G,Rd.own o⟩,J⟩
theorem Qrv(hr:Rd w 1 A n cs)(h1:∀ u∈cs,u.oneCell'=true)(hb:n*1<=140737488355328):
  Ret Tryz.prog 118 [.slice A n c] w λv w'=>(∃ A' c',v=.slice A' n c'/\n<=c'/\Rd w' 1 A' n cs/\∀ ad,A'=some ad->w.heap.size<=ad.block)/\Ext w w':=by
 refine Jz Tryz.func118 Tryz.ntmps118 rfl kr rfl ?_;refine ρ ?_;refine Il ?_;refine ρ ?_;refine ci (λh=>?_) (λh=>?_)
 .have hA:A=none:=by simpa using h
  subst hA;have hn:n=0:=by
   rcases Nat.eq_zero_or_pos n with h0|h0
   .exact h0
   .obtain ⟨ad,h2,_⟩:=hr.isome h0 om;cases h2
  subst hn;refine ρ ?_;exact Jj ⟨⟨none,0,rfl,Nat.le_refl _,hr,λad e=>by cases e⟩,Ext.refl w⟩
 .refine ρ ?_;refine bsl Qzc ?_;intro w1 b C U O;refine ρ ?_;refine apo C EB (O.own (n:=0) U rfl (Nat.zero_le _)) (hr.ext C) h1 (by unfold maxLen;omega) om ?_;intro v2 w2 o J _ _;obtain ⟨A2,c2,rfl,G,Z⟩:=Jv o;refine ρ ?_;rw [Nat.zero_add]at o G ⊢;exact Jj ⟨⟨A2,c2,rfl,G,Rd.own o,λad e=>by subst e;exact (Z ad.block rfl).1⟩,J⟩
theorem Jjn(w:World): (Instr.buildSlice 37 0 #[]).run Tryz.prog w=.ok (.slice (some ⟨w.heap.size,0,none⟩) 0 0) (w.alloc (.cells ([]:List Value).toArray 47)):=kr
theorem Qzb(w:World): (Instr.buildSlice 29 0 #[]).run Tryz.prog w=.ok (.slice (some ⟨w.heap.size,0,none⟩) 0 0) (w.alloc (.cells ([]:List Value).toArray 110)):=kr
theorem Qrt(hr:Rd w 1 A n cs)(h1:∀ u∈cs,u.oneCell'=true)(hb:n*4<=140737488355328):
  Ret Tryz.prog 89 [.slice A n c] w λv w'=>(∃ A' c',v=.slice A' n c'/\n<=c'/\Rd w' 1 A' n cs)/\Ext w w':=by
 refine Jz Tryz.func89 Tryz.ntmps89 rfl kr rfl ?_;refine ρ ?_;refine Il ?_;refine ρ ?_;refine ci (λh=>?_) (λh=>?_)
 .have Z:A=none:=by simpa using h
  subst Z;have hn:n=0:=by
   rcases Nat.eq_zero_or_pos n with h0|h0
   .exact h0
   .obtain ⟨ad,h2,_⟩:=hr.isome h0 om;cases h2
  subst hn;refine ρ ?_;exact Jj ⟨⟨none,0,rfl,Nat.le_refl _,hr⟩,Ext.refl w⟩
 .refine ρ ?_;refine bsl Qzb ?_;intro w1 b C U O;refine ρ ?_;refine apo C EN (O.own (n:=0) U rfl (Nat.zero_le _)) (hr.ext C) h1 (by unfold maxLen;omega) om ?_;intro v2 w2 o J _ _;obtain ⟨A2,c2,rfl,G,_⟩:=Jv o;refine ρ ?_;rw [Nat.zero_add]at o G ⊢;exact Jj ⟨⟨A2,c2,rfl,G,Rd.own o⟩,J⟩
open Go.RowKit Pl Go.Wk
open Go.RowKit Pl Go.Wk
variable {a b os:List UInt32}{c i m n s x y:Nat}{u v:Value}{w:World}
theorem Yf(z:Value)(n:Nat): (madeCells #[z] n).toList=List.replicate n z:=by
 unfold madeCells;apply List.ext_getElem
 .simp
 .intro i u o;simp [Nat.mod_one]
theorem Jhp(n:Nat): List.replicate n (Value.int .u32 0)=Nc (List.replicate n 0):=by simp [Nc]
theorem Jzd(l:List UInt32)(i:Nat)(c:UInt32): (Nc l).set i (.int .u32 (c.toNat:Int))=Nc (l.set i c):=by simp [Nc,List.map_set]
theorem Xqd(hx:x<4294967296)(hc:c<=1): IntKind.u64.wrap ((c:Int)+IntKind.u64.wrap (x:Int))=((c+x:Nat):Int):=by
 simp only [IntKind.wrap_u64];omega
theorem Jcl(n:Nat): (n:Int).fdiv (2^min (32:Int).toNat IntKind.u64.bits)=((n / 4294967296:Nat):Int):=by
 have e:(2:Int)^min (32:Int).toNat IntKind.u64.bits=((4294967296:Nat):Int):=by decide
 rw [e,Int.fdiv_eq_ediv_of_nonneg _ (Int.natCast_nonneg _)];omega
def AddInv(a b:List UInt32)(i c:Nat)(os:List UInt32): Prop:=os.length=i/\c<=1/\val os+4294967296^i*c=val (a.take i)+val (b.take i)
theorem Jqf: val (a.take (i+1))=val (a.take i)+4294967296^i*(a.getD i 0).toNat:=by
 rcases Nat.lt_or_ge i a.length with h|h
 .have o:a.take (i+1)=a.take i++[a.getD i 0]:=by
   rw [List.take_succ_eq_append_getElem h];simp [List.getD,List.getElem?_eq_getElem h]
  rw [o,Iw,List.length_take,Nat.min_eq_left om];simp [val]
 .rw [List.take_of_length_le om,List.take_of_length_le h];have:a.getD i 0=0:=by simp [List.getD,List.getElem?_eq_none h]
  rw [this];simp
theorem AddInv.step(h:AddInv a b i c os)(hs:s=c+(a.getD i 0).toNat+(b.getD i 0).toNat): AddInv a b (i+1) (s / 4294967296) (os++[UInt32.ofNat s]):=by
 obtain ⟨o,J,G⟩:=h;have C:(a.getD i 0).toNat<4294967296:=(a.getD i 0).toNat_lt;have u:(b.getD i 0).toNat<4294967296:=(b.getD i 0).toNat_lt;refine ⟨by simp [o],om,?_⟩;rw [Iw,o,Jqf,Jqf];simp only [val,UInt32.toNat_ofNat'];have e:4294967296^(i+1)*(s / 4294967296)=4294967296^i*(4294967296*(s / 4294967296)):=by rw [Nat.pow_succ,Nat.mul_assoc]
 rw [e];have U:4294967296^i*(s % 2^32+4294967296*0)+4294967296^i*(4294967296*(s / 4294967296))=4294967296^i*s:=by
  rw [<-Nat.mul_add];congr 1;omega
 have O:4294967296^i*s=4294967296^i*c+4294967296^i*(a.getD i 0).toNat+4294967296^i*(b.getD i 0).toNat:=by
  rw [hs,Nat.mul_add,Nat.mul_add]
 omega
theorem Jcm(os:List UInt32)(r:Nat)(c:UInt32): (os++List.replicate (r+1) 0).set os.length c=(os++[c])++List.replicate r 0:=by
 rw [List.set_append_right _ _ (Nat.le_refl _)];simp [List.replicate_succ]
theorem Xqc(hs:s<9223372036854775808)(hy:y<4294967296): IntKind.u64.wrap ((s:Int)+IntKind.u64.wrap (y:Int))=((s+y:Nat):Int):=by
 simp only [IntKind.wrap_u64];omega
abbrev Xr(w:World)(base:Nat)(v:Value)(l:List UInt32): Prop:=w.ownsRow base 110 1 v l.length (Nc l)
def Fresh(w:World)(v:Value): Prop:=∀ ad n c,v=.slice (some ad) n c->w.heap.size<=ad.block
theorem Jjd(hv:NatV w v n)(hu:NatV w u m)(hln:(Jq n).length<=1000)(hlm:(Jq m).length<=1000): Ret Tryz.prog 14 [v,u] w λr w'=>NatV w' r (n+m)/\Fresh w r/\Ext w w':=by
 refine Jz Tryz.func14 Tryz.ntmps14 rfl kr rfl ?_;refine ρ ?_;refine cl (Ub hv) ?_;rintro v' w' ⟨⟨A,rfl,ha⟩,rfl⟩;refine ρ ?_;refine cl (Ub hu) ?_;rintro u' a3 ⟨⟨B,rfl,hb⟩,rfl⟩;refine ρ ?_;refine Xa (λs:(Option Addr×Nat)×(Option Addr×Nat)=>[(0,.slice s.1.1 (Jq s.1.2).length (Jq s.1.2).length),(1,.slice s.2.1 (Jq s.2.2).length (Jq s.2.2).length)])
  (λs w'=>w'=a3/\(Jq s.2.2).length<=(Jq s.1.2).length/\s.1.2+s.2.2=n+m/\Rd a3 1 s.1.1 (Jq s.1.2).length (Nc (Jq s.1.2))/\Rd a3 1 s.2.1 (Jq s.2.2).length (Nc (Jq s.2.2))/\(Jq s.1.2).length<=1000) ?_ ?_
 .refine ci (λh=>?_) (λh=>?_)
  .refine ρ ?_;exact Jb ((B,m),(A,n)) sB ⟨rfl,by have:=oT h;simp only;omega,Nat.add_comm _ _,hb,ha,hlm⟩
  .refine ρ ?_;exact Jb ((A,n),(B,m)) sB ⟨rfl,by have:=oF h;simp only;omega,rfl,ha,hb,hln⟩
 rintro ⟨⟨A,x⟩,⟨B,y⟩⟩ w' ⟨rfl,ak,a1,ha,hb,hl⟩;simp only at ak a1 ha hb hl;generalize hL:(Jq x).length=L at *
 refine ρ ?_;refine mkn EN (L+1) om (by unfold maxLen;omega) ?_;intro w1 O ag aa hO;have a9:Xr w1 w'.heap.size (.slice O (L+1) (L+1)) ([]++List.replicate (L+1) 0):=by
  have e:(madeCells (Value.int .u32 0).cells ((L+1)*1)).toList=Nc (List.replicate (L+1) 0):=by rw [Nat.mul_one,<-Jhp];exact Yf _ _
  rw [e]at aa;rw [Xr,List.nil_append,List.length_replicate];exact aa
 refine ρ ?_;refine Xt (fun (k c:Nat) (o:List UInt32)=>[(0,.slice A L L),(1,.slice B (Jq y).length (Jq y).length),(5,.slice O (L+1) (L+1)),(6,.int .u64 (c:Int)),(24,.int .i64 (L:Int)),(25,.int .i64 (k:Int))])
  (λk c o w2=>Ext w' w2/\k<=L/\AddInv (Jq x) (Jq y) k c o/\Xr w2 w'.heap.size (.slice O (L+1) (L+1)) (o++List.replicate (L+1-k) 0)) (λk _ _=>L-k) 0 0 [] sB
  ⟨ag,Nat.zero_le _,⟨rfl,om,rfl⟩,a9⟩ ?_
 rintro k c o w2 ⟨Z,hk,hI,a5⟩;have a8:=hI.1;have ap:=hI.2.1;have ac:=ha.ext Z;have ab:=hb.ext Z;refine ρ ?_;refine ci (λh=>?_) (λh=>?_)
 .have aj:k<L:=by have:=oT h;omega
  have ai:((Jq x).getD k 0).toNat<4294967296:=((Jq x).getD k 0).toNat_lt;have ah:((Jq y).getD k 0).toNat<4294967296:=((Jq y).getD k 0).toNat_lt;have C:(o++List.replicate (L+1-k) (0:UInt32)).length=L+1:=by simp;omega
  have store:∀ s:Nat,w2.cell? (adr O k)=(Nc (o++List.replicate (L+1-k) 0))[k]?/\w2.frozen? (adr O k)=false /\
    Xr (w2.setCell (adr O k) (.int .u32 ((UInt32.ofNat s).toNat:Int))) w'.heap.size (.slice O (L+1) (L+1)) ((o++[UInt32.ofNat s])++List.replicate (L+1-(k+1)) 0)/\Ext w' (w2.setCell (adr O k) (.int .u32 ((UInt32.ofNat s).toNat:Int))):=λs=>by
   have J:=a5;rw [Xr,C]at J;obtain ⟨s1,s2,U,s4,s5⟩:=Zv J (q:=k) om (.int .u32 ((UInt32.ofNat s).toNat:Int));refine ⟨s1,s2,?_,Z.setCell s4 _⟩;rw [Jzd,show L+1-k=(L-k)+1 by omega]at U;have e:=Jcm o (L-k) (UInt32.ofNat s);rw [a8]at e;rw [e]at U;rw [Xr,show L+1-(k+1)=L-k by omega];have e2:((o++[UInt32.ofNat s])++List.replicate (L-k) (0:UInt32)).length=L+1:=by simp;omega
   rw [e2];exact U
  have G:(Nc (o++List.replicate (L+1-k) 0))[k]?=some (.int .u32 (((o++List.replicate (L+1-k) 0).getD k 0).toNat:Int)):=Zl (by rw [C];omega);have a6:Rd w2 1 O (L+1) (Nc (o++List.replicate (L+1-k) 0)):=by have h5:=a5;rw [Xr,C]at h5;exact Rd.own h5
  refine ρ ?_;refine ix k ac aj ?_;refine ρ ?_;refine ld (ac.cell (Zl (show k<(Jq x).length by omega))) ?_;refine ρ ?_;rw [Xqd ai ap];refine ci (λh=>?_) (λh=>?_)
  .have a2:k<(Jq y).length:=by have:=oT h;omega
   refine ρ ?_;refine ix k ab a2 ?_;refine ρ ?_;refine ld (ab.cell (Zl a2)) ?_;refine ρ ?_;refine ix k a6 om ?_;obtain ⟨s1,s2,U,s4⟩:=store (c+((Jq x).getD k 0).toNat+((Jq y).getD k 0).toNat);rw [Xqc om ah,Uy];refine sto (s1.trans G) s2 ?_;refine ρ ?_;refine Ym rfl rfl (by decide) rfl ?_;refine ρ ?_;refine Xj (k+1) ((c+((Jq x).getD k 0).toNat+((Jq y).getD k 0).toNat) / 4294967296) (o++[UInt32.ofNat (c+((Jq x).getD k 0).toNat+((Jq y).getD k 0).toNat)]) ?_ ⟨s4,om,hI.step rfl,U⟩ om;rw [Jcl];exact sB
  .have ao:(Jq y).length<=k:=by have:=oF h;omega
   have ae:(Jq y).getD k 0=0:=by simp [List.getD,List.getElem?_eq_none ao]
   refine ρ ?_;refine ix k a6 om ?_;obtain ⟨s1,s2,U,s4⟩:=store (c+((Jq x).getD k 0).toNat);rw [Uy];refine sto (s1.trans G) s2 ?_;refine ρ ?_;refine Ym rfl rfl (by decide) rfl ?_;refine ρ ?_;refine Xj (k+1) ((c+((Jq x).getD k 0).toNat) / 4294967296) (o++[UInt32.ofNat (c+((Jq x).getD k 0).toNat)]) ?_ ⟨s4,om,hI.step (by rw [ae];rfl),U⟩ om;rw [Jcl];exact sB
 .have an:k=L:=by have:=oF h;omega
  subst an;have C:(o++List.replicate (k+1-k) (0:UInt32)).length=k+1:=by simp;omega
  have J:=a5;rw [Xr,C]at J;have G:(Nc (o++List.replicate (k+1-k) 0))[k]?=some (.int .u32 (((o++List.replicate (k+1-k) 0).getD k 0).toNat:Int)):=Zl (by rw [C];omega);obtain ⟨s1,s2,U,s4,s5⟩:=Zv J (q:=k) om (.int .u32 ((UInt32.ofNat c).toNat:Int));rw [Jzd,show k+1-k=0+1 by omega]at U;have e:=Jcm o 0 (UInt32.ofNat c);rw [a8,List.replicate_zero,List.append_nil]at e;rw [e]at U;have af:=Z.setCell s4 (.int .u32 ((UInt32.ofNat c).toNat:Int));refine ρ ?_;refine ix k (Rd.own J) om ?_;rw [Uy];refine sto (s1.trans G) s2 ?_;refine ρ ?_;have am:(o++[UInt32.ofNat c]).length=k+1:=by simp;omega
  have a4:=Rd.own U;have a7:val (o++[UInt32.ofNat c])=n+m:=by
   obtain ⟨i1,i2,i3⟩:=hI;rw [Iw,i1];simp only [val,UInt32.toNat_ofNat'];rw [<-a1,<-Zm x,<-Zm y,<-List.take_of_length_le (show (Jq x).length<=k by omega),<-List.take_of_length_le (show (Jq y).length<=k by omega),<-i3,show c % 2^32+4294967296*0=c by omega]
  rw [<-am]at a4 ⊢;refine cl (Iv a4 (Nat.le_refl _) om) ?_;rintro t w4 ⟨rfl,rfl⟩;have:=Jqh a4 om;rw [a7]at this ⊢;refine ρ ?_;exact Jj ⟨this,λad _ _ e=>hO ad (by injection e),af⟩
theorem Qhc(hv:NatV w v n)(hu:NatV w u m)(hln:(Jq n).length<=1000)(hlm:(Jq m).length<=1000): Ret Tryz.prog 14 [v,u] w λr w'=>NatV w' r (n+m)/\Ext w w' :=
 (Jjd hv hu hln hlm).mono λ_ _ h=>⟨h.1,h.2.2⟩
open Go.RowKit Pl Go.Wk
variable {a b os:List UInt32}{c i m n s x y:Nat}
def dif(x c y:Nat): Nat:=(18446744073709551616+x-c-y) % 18446744073709551616
theorem Qbf(hx:x<4294967296)(hc:c<=1): IntKind.u64.wrap (IntKind.u64.wrap (x:Int)-(c:Int))=(dif x c 0:Int):=by
 unfold dif;simp only [IntKind.wrap_u64];omega
theorem Qbd(hx:x<4294967296)(hc:c<=1)(hy:y<4294967296): IntKind.u64.wrap ((dif x c 0:Int)-IntKind.u64.wrap (y:Int))=(dif x c y:Int):=by
 unfold dif;simp only [IntKind.wrap_u64];omega
theorem Jnr(n:Nat): (n:Int).fdiv (2^min (63:Int).toNat IntKind.u64.bits)=((n / 9223372036854775808:Nat):Int):=by
 have e:(2:Int)^min (63:Int).toNat IntKind.u64.bits=((9223372036854775808:Nat):Int):=by decide
 rw [e,Int.fdiv_eq_ediv_of_nonneg _ (Int.natCast_nonneg _)];omega
theorem Qpl(hx:x<4294967296)(hc:c<=1)(hy:y<4294967296): dif x c y % 4294967296+y+c=x+4294967296*(dif x c y / 9223372036854775808)/\dif x c y / 9223372036854775808<=1:=by
 unfold dif;omega
def SubInv(a b:List UInt32)(i c:Nat)(os:List UInt32): Prop:=os.length=i/\c<=1/\val os+val (b.take i)=val (a.take i)+4294967296^i*c
theorem SubInv.step(h:SubInv a b i c os)(hs:s=dif (a.getD i 0).toNat c (b.getD i 0).toNat):
  SubInv a b (i+1) (s / 9223372036854775808) (os++[UInt32.ofNat s]):=by
 obtain ⟨C,O,Z⟩:=h;have J:(a.getD i 0).toNat<4294967296:=(a.getD i 0).toNat_lt;have G:(b.getD i 0).toNat<4294967296:=(b.getD i 0).toNat_lt;obtain ⟨u,o⟩:=Qpl J O G;rw [<-hs]at u o;refine ⟨by simp [C],o,?_⟩;rw [Iw,C,Jqf,Jqf];simp only [val,UInt32.toNat_ofNat'];have e:4294967296^(i+1)*(s / 9223372036854775808)=4294967296^i*(4294967296*(s / 9223372036854775808)):=by rw [Nat.pow_succ,Nat.mul_assoc]
 have U:s % 2^32+4294967296*0=s % 4294967296:=om
 rw [e,U];have e3:4294967296^i*(s % 4294967296)+4294967296^i*(b.getD i 0).toNat+4294967296^i*c=4294967296^i*(a.getD i 0).toNat+4294967296^i*(4294967296*(s / 9223372036854775808)):=by
  rw [<-Nat.mul_add,<-Nat.mul_add,<-Nat.mul_add,u]
 omega
theorem Qgx{v u:Value}{w:World}(hv:NatV w v n)(hu:NatV w u m)(hln:(Jq n).length<=1000):
  Ret Tryz.prog 67 [v,u] w λr w'=>(∃ x,r=.tuple #[x,.int .i64 (if n<m then 19 else 0)]/\NatV w' x (n-m)/\Fresh w x)/\Ext w w':=by
 refine Jz Tryz.func67 Tryz.ntmps67 rfl kr rfl ?_;refine ρ ?_;refine cl (Ub hv) ?_;rintro v' w' ⟨⟨A,rfl,ha⟩,rfl⟩;refine ρ ?_;refine cl (Ub hu) ?_;rintro u' ar ⟨⟨B,rfl,hb⟩,rfl⟩;have am:(Jq m).length<=4611686018427387904:=by obtain ⟨_,_,_,_,h,_⟩:=hu;exact h
 refine ρ ?_;refine cl (Kn (n:=n) (m:=m) ⟨A,_,rfl,Nat.le_refl _,om,ha⟩ ⟨B,_,rfl,Nat.le_refl _,am,hb⟩) ?_;rintro t w' ⟨rfl,C⟩;refine ρ ?_;refine ci (λh=>?_) (λh=>?_)
 .have a4:n<m:=by
   have:=oT h;unfold Yv at this;rcases Nat.lt_or_ge n m with h1|h1
   .exact h1
   .rw [if_neg om]at this;split at this<;>omega
  refine ρ ?_;refine Yk ⟨⟨.slice none 0 0,?_,?_,λad _ _ e=>by cases e⟩,C⟩
  .rw [if_pos a4]
  .rw [show n-m=0 by omega];exact NatV.nil _
 have ae:m<=n:=by
  have:=oF h;unfold Yv at this;rcases Nat.lt_or_ge n m with h1|h1
  .rw [if_pos h1]at this;omega
  .exact h1
 have au:(Jq m).length<=(Jq n).length:=by
  rcases Nat.lt_or_ge (Jq n).length (Jq m).length with h1|h1
  .have:=Jdw h1;omega
  .exact h1
 have ap:=ha.ext C;have ao:=hb.ext C;generalize hL:(Jq n).length=L at *
 refine ρ ?_;refine mkn EN L om (by unfold maxLen;omega) ?_;intro w1 O a6 ab hO;have aq:=C.trans a6;have aj:=C.size;have aa:Xr w1 w'.heap.size (.slice O L L) ([]++List.replicate L 0):=by
  have e:(madeCells (Value.int .u32 0).cells (L*1)).toList=Nc (List.replicate L 0):=by rw [Nat.mul_one,<-Jhp];exact Yf _ _
  rw [e]at ab;rw [Xr,List.nil_append,List.length_replicate];exact ab
 refine ρ ?_;refine Xt (fun (k c:Nat) (o:List UInt32)=>[(0,.slice A L L),(1,.slice B (Jq m).length (Jq m).length),(6,.slice O L L),(7,.int .u64 (c:Int)),(22,.int .i64 (L:Int)),(23,.int .i64 (k:Int))])
  (λk c o U=>Ext w' U/\k<=L/\SubInv (Jq n) (Jq m) k c o/\Xr U w'.heap.size (.slice O L L) (o++List.replicate (L-k) 0)) (λk _ _=>L-k) 0 0 [] sB
  ⟨a6,Nat.zero_le _,⟨rfl,om,rfl⟩,aa⟩ ?_
 rintro k c o U ⟨Z,hk,hI,a3⟩;have a1:=hI.1;have af:=hI.2.1;have ah:=ap.ext Z;have ag:=ao.ext Z;refine ρ ?_;refine ci (λh=>?_) (λh=>?_)
 .have a4:k<L:=by have:=oT h;omega
  have ac:((Jq n).getD k 0).toNat<4294967296:=((Jq n).getD k 0).toNat_lt;have ak:((Jq m).getD k 0).toNat<4294967296:=((Jq m).getD k 0).toNat_lt;have G:(o++List.replicate (L-k) (0:UInt32)).length=L:=by simp;omega
  have store:∀ s:Nat,U.cell? (adr O k)=(Nc (o++List.replicate (L-k) 0))[k]?/\U.frozen? (adr O k)=false /\
    Xr (U.setCell (adr O k) (.int .u32 ((UInt32.ofNat s).toNat:Int))) w'.heap.size (.slice O L L) ((o++[UInt32.ofNat s])++List.replicate (L-(k+1)) 0)/\Ext w' (U.setCell (adr O k) (.int .u32 ((UInt32.ofNat s).toNat:Int))):=λs=>by
   have a9:=a3;rw [Xr,G]at a9;obtain ⟨s1,s2,s3,s4,s5⟩:=Zv a9 (q:=k) om (.int .u32 ((UInt32.ofNat s).toNat:Int));refine ⟨s1,s2,?_,Z.setCell s4 _⟩;rw [Jzd,show L-k=(L-(k+1))+1 by omega]at s3;have e:=Jcm o (L-(k+1)) (UInt32.ofNat s);rw [a1]at e;rw [e]at s3;have e2:((o++[UInt32.ofNat s])++List.replicate (L-(k+1)) (0:UInt32)).length=L:=by simp;omega
   rw [Xr,e2];exact s3
  have J:(Nc (o++List.replicate (L-k) 0))[k]?=some (.int .u32 (((o++List.replicate (L-k) 0).getD k 0).toNat:Int)):=Zl (by rw [G];omega);have a5:Rd U 1 O L (Nc (o++List.replicate (L-k) 0)):=by have h5:=a3;rw [Xr,G]at h5;exact Rd.own h5
  refine ρ ?_;refine ix k ah a4 ?_;refine ρ ?_;refine ld (ah.cell (Zl (show k<(Jq n).length by omega))) ?_;refine ρ ?_;rw [Qbf ac af];refine ci (λh=>?_) (λh=>?_)
  .have a2:k<(Jq m).length:=by have:=oT h;omega
   refine ρ ?_;refine ix k ag a2 ?_;refine ρ ?_;refine ld (ag.cell (Zl a2)) ?_;refine ρ ?_;refine ix k a5 om ?_;obtain ⟨s1,s2,s3,s4⟩:=store (dif ((Jq n).getD k 0).toNat c ((Jq m).getD k 0).toNat);rw [Qbd ac af ak,Uy];refine sto (s1.trans J) s2 ?_;refine ρ ?_;refine Ym rfl rfl (by decide) rfl ?_;refine ρ ?_;refine Xj (k+1) (dif ((Jq n).getD k 0).toNat c ((Jq m).getD k 0).toNat / 9223372036854775808) (o++[UInt32.ofNat (dif ((Jq n).getD k 0).toNat c ((Jq m).getD k 0).toNat)]) ?_ ⟨s4,om,hI.step rfl,s3⟩ om;rw [Jnr];exact sB
  .have ae:(Jq m).length<=k:=by have:=oF h;omega
   have ai:(Jq m).getD k 0=0:=by simp [List.getD,List.getElem?_eq_none ae]
   refine ρ ?_;refine ix k a5 om ?_;obtain ⟨s1,s2,s3,s4⟩:=store (dif ((Jq n).getD k 0).toNat c 0);rw [Uy];refine sto (s1.trans J) s2 ?_;refine ρ ?_;refine Ym rfl rfl (by decide) rfl ?_;refine ρ ?_;refine Xj (k+1) (dif ((Jq n).getD k 0).toNat c 0 / 9223372036854775808) (o++[UInt32.ofNat (dif ((Jq n).getD k 0).toNat c 0)]) ?_ ⟨s4,om,hI.step (by rw [ai];rfl),s3⟩ om;rw [Jnr];exact sB
 .have an:k=L:=by have:=oF h;omega
  subst an;have a8:Rd U 1 O o.length (Nc o):=by
   have:=Rd.own (show U.ownsRow w'.heap.size 110 1 (.slice O k k) k (Nc o) by
    have h5:=a3;rw [Xr,Nat.sub_self,List.replicate_zero,List.append_nil,a1]at h5;exact h5)
   rw [a1];exact this
  have a7:val o=n-m:=by
   obtain ⟨i1,i2,i3⟩:=hI;rw [List.take_of_length_le (show (Jq n).length<=k by omega),List.take_of_length_le (show (Jq m).length<=k by omega),Zm,Zm]at i3;have hv:=Jbw o;rw [i1]at hv;rcases Nat.eq_zero_or_pos c with h0|h0
   .subst h0;omega
   .have:c=1:=om
    subst this;omega
  refine ρ ?_;rw [<-a1];refine cl (Iv a8 (Nat.le_refl _) om) ?_;rintro t w4 ⟨rfl,rfl⟩;have:=Jqh a8 om;rw [a7]at this ⊢;refine ρ ?_;refine Yk ⟨⟨_,?_,this,λad _ _ e=>nL aj (hO ad (by injection e))⟩,C.trans Z⟩;rw [if_neg om]
end Go.Proofs.YtebcagekopgdhaaGreatDoor
namespace Go.Proofs.YtebcagekopgdhaaGreatDoor
namespace Pl
structure V where
 kind: Int
 num:Int
 str:ByteArray
def V.bytes(v:V): List UInt8:=v.str.data.toList
def V.cells(v:V): List Value:=[.int .i64 v.kind,.int .i64 v.num,.string v.str]
def V.val(v:V): Value:=.agg #[.int .i64 v.kind,.int .i64 v.num,.string v.str]
end Pl
open Go.RowKit Pl Go.Wk
attribute [local irreducible] WC WL QX WD WDB
def V0: V:=⟨0,0,⟨#[]⟩⟩
def Jd(r:List V): List Value:=r.flatMap V.cells
abbrev RdR(w:World)(A:Option Addr)(r:List V): Prop:=Rd w 3 A r.length (Jd r)
abbrev RdB(w:World)(A:Option Addr)(ds:List Bool): Prop:=Rd w 1 A ds.length (ds.map Value.bool)
theorem Jdc(r:List V): (Jd r).length=r.length*3:=by
 induction r with
 | nil=>rfl
 | cons v r ih=>simp only [Jd,List.flatMap_cons,List.length_append,V.cells,List.length_cons,List.length_nil]at ih ⊢;omega
theorem Jdd: ∀ (r:List V) (i j:Nat),i<r.length->j<3->(Jd r)[i*3+j]?=(r.getD i V0).cells[j]?
 | [],i,j,h,_=>by simp at h
 | v::r,0,j,_,hj=>by
  simp only [Jd,List.flatMap_cons,Nat.zero_mul,Nat.zero_add,List.getD_cons_zero];rw [List.getElem?_append_left (by simp [V.cells];omega)]
 | v::r,i+1,j,h,hj=>by
  have ih:=Jdd r i j (by simpa using h) hj;simp only [Jd,List.flatMap_cons,List.getD_cons_succ]at ih ⊢;rw [List.getElem?_append_right (by simp [V.cells];omega),<-ih];congr 1
  simp [V.cells];omega
theorem RdR.cell{w:World}{A:Option Addr}{r:List V}(h:RdR w A r){i j:Nat}{u:Value}(hi:i<r.length)(hu:(r.getD i V0).cells[j]?=some u): w.cell? ((adr A (i*3)).add j)=some u:=by
 have o:j<3:=by have:=(List.getElem?_eq_some_iff.1 hu).1;simpa [V.cells] using this
 rw [Xg];exact Rd.cell h (by rw [Jdd r i j hi o];exact hu)
theorem RdB.cell{w:World}{A:Option Addr}{ds:List Bool}(h:RdB w A ds){i:Nat}(hi:i<ds.length): w.cell? (adr A i)=some (.bool (ds.getD i false)) :=
 Rd.cell h (by simp [List.getElem?_eq_getElem hi])
theorem Qmz{r:List V}{i:Nat}(h:i<r.length): r.getD i V0∈r:=by simp [List.getD,List.getElem?_eq_getElem h]
theorem V.one(v:V): ∀ u∈v.cells,u.oneCell'=true:=by
 intro u o;simp [V.cells]at o;rcases o with rfl|rfl|rfl<;>rfl
theorem Jvj(r:List V): ∀ u∈Jd r,u.oneCell'=true:=by
 intro u C;obtain ⟨v,_,o⟩:=List.mem_flatMap.1 C;simp [V.cells]at o;rcases o with rfl|rfl|rfl<;>rfl
theorem Qcp(a b:List V): Jd (a++b)=Jd a++Jd b:=by simp [Jd]
def cmpV(a b:V): Int:=if a.kind≠b.kind then sgn a.kind b.kind else if a.num≠b.num then sgn a.num b.num else Lib.compareBytes a.bytes b.bytes
def neg(d:Bool)(c:Int): Int:=if d then -c else c
def Jw: List V->List V->List Bool->Int
 | [],[],_=>0
 | [],_::_,_=>-1
 | _::_,[],_=>1
 | x::a,y::b,ds=>if cmpV x y=0 then Jw a b (ds.drop 1) else neg (ds.getD 0 false) (cmpV x y)
theorem Qpx(a b:ByteArray)(w:World): Ret Tryz.prog 172 [.string a,.string b] w λv w'=>v=.int .i64 (Lib.compareBytes a.data.toList b.data.toList)/\w'=w:=by
 refine Jz Tryz.func172 Tryz.ntmps172 rfl kr rfl ?_;refine ρ ?_;refine wext (vs:=[.string a,.string b]) (v:=.int .i64 (Lib.compareBytes a.data.toList b.data.toList)) (w':=w) ?_ ?_
 .rw [run_callFunc_extern Tryz.func193 kr kr kr (e:=Extern.BytealgCompare.compare) kr,Lib.run_compareString];rfl
 refine ρ ?_;exact Jj ⟨rfl,rfl⟩
theorem Qbg(a b:ByteArray)(w:World): Ret Tryz.prog 149 [.string a,.string b] w λv w'=>v=.int .i64 (Lib.compareBytes a.data.toList b.data.toList)/\w'=w:=by
 refine Jz Tryz.func149 Tryz.ntmps149 rfl kr rfl ?_;refine ρ ?_;refine cl (Qpx a b w) ?_;rintro v w' ⟨rfl,rfl⟩;refine ρ ?_;exact Jj ⟨rfl,rfl⟩
theorem Jqd(a b:V)(w:World): Ret Tryz.prog 95 [a.val,b.val] w λr w'=>r=.int .i64 (cmpV a b)/\Ext w w':=by
 refine Jz Tryz.func95 Tryz.ntmps95 rfl kr rfl ?_;refine ρ ?_;refine bx ?_;intro w1 b1 J a1 o;refine ρ ?_;refine bx ?_;intro w2 b2 C Z u;have o:=o.ext C;have O:=J.trans C;refine ρ ?_;refine ld (o.at rfl) ?_;refine ρ ?_;refine ld (u.at rfl) ?_;refine ρ ?_;refine ci (λG=>?_) (λG=>?_)
 .refine ρ ?_;refine ld (o.at rfl) ?_;refine ρ ?_;refine ld (u.at rfl) ?_;refine ρ ?_;refine cl (Qql _ _ _) ?_;rintro t U ⟨rfl,rfl⟩;refine ρ ?_;refine Jj ⟨?_,O⟩;rw [cmpV,if_pos (by simpa using G)]
 .refine ρ ?_;refine ld (o.at rfl) ?_;refine ρ ?_;refine ld (u.at rfl) ?_;refine ρ ?_;refine ci (λhn=>?_) (λhn=>?_)
  .refine ρ ?_;refine ld (o.at rfl) ?_;refine ρ ?_;refine ld (u.at rfl) ?_;refine ρ ?_;refine cl (Qpw _ _ _) ?_;rintro t U ⟨rfl,rfl⟩;refine ρ ?_;refine Jj ⟨?_,O⟩;rw [cmpV,if_neg (by simpa using G),if_pos (by simpa using hn)]
  .refine ρ ?_;refine ld (o.at rfl) ?_;refine ρ ?_;refine ld (u.at rfl) ?_;refine ρ ?_;refine cl (Qbg _ _ _) ?_;rintro t U ⟨rfl,rfl⟩;refine ρ ?_;refine Jj ⟨?_,O⟩;rw [cmpV,if_neg (by simpa using G),if_neg (by simpa using hn)];rfl
end Go.Proofs.YtebcagekopgdhaaGreatDoor
namespace Go.Proofs.YtebcagekopgdhaaGreatDoor
open Pl
variable {α β:Type}
structure PreC{α:Type}(f:α->α->Int): Prop where
 anti:∀ a b,f b a = - f a b
 trans:∀ a b c,f a b<=0->f b c<=0->f a c<=0
theorem PreC.refl{f:α->α->Int}(h:PreC f)(a:α): f a a=0:=by have:=h.anti a a;omega
structure Cmp{α:Type}(f:α->α->Int): Prop where
 anti:∀ a b,f b a = - f a b
 zero:∀ a b,f a b=0->a=b
 trans:∀ a b c,f a b<=0->f b c<=0->f a c<=0
theorem Cmp.pre{f:α->α->Int}(h:Cmp f)(g:β->α): PreC λa b=>f (g a) (g b):=⟨λa b=>h.anti _ _,λa b c=>h.trans _ _ _⟩
section
variable {α:Type} {f:α->α->Int}
theorem Cmp.refl(h:Cmp f)(a:α): f a a=0:=by have:=h.anti a a;omega
theorem Cmp.lt_le(h:Cmp f){a b c:α}(h1:f a b<0)(h2:f b c<=0): f a c<0:=by
 have o:=h.trans a b c om h2;rcases Int.lt_or_eq_of_le o with h4|h4
 .exact h4
 .have:=h.zero _ _ h4;subst this;have:=h.anti a b;omega
theorem Cmp.le_lt(h:Cmp f){a b c:α}(h1:f a b<=0)(h2:f b c<0): f a c<0:=by
 have o:=h.trans a b c h1 om;rcases Int.lt_or_eq_of_le o with h4|h4
 .exact h4
 .have:=h.zero _ _ h4;subst this;have:=h.anti a b;omega
theorem Cmp.lt_trans(h:Cmp f){a b c:α}(h1:f a b<0)(h2:f b c<0): f a c<0:=h.lt_le h1 om
theorem Cmp.tot(h:Cmp f)(a b:α): f a b<0∨a=b∨f b a<0:=by
 have o:=h.anti a b;rcases Int.lt_trichotomy (f a b) 0 with h2|h2|h2
 .exact .inl h2
 .exact .inr (.inl (h.zero _ _ h2))
 .exact .inr (.inr om)
theorem Cmp.flip(h:Cmp f): Cmp λa b=>- f a b :=
 ⟨λa b=>by rw [h.anti a b],λa b h0=>h.zero a b om,λa b c u o=>by
  have J:=h.anti a b;have G:=h.anti b c;have C:=h.anti a c;have:=h.trans c b a om om;omega⟩
end
theorem cmp_sgn: Cmp sgn:=by
 refine ⟨λa b=>?_,λa b h=>?_,λa b c u o=>?_⟩
 .unfold sgn;split<;>split<;>omega
 .unfold sgn at h;split at h
  .omega
  .split at h<;>omega
 .unfold sgn at *;by_cases e1:a<b<;>by_cases e2:b<a<;>by_cases e3:b<c<;>by_cases e4:c<b<;>by_cases e5:a<c<;>by_cases e6:c<a<;>simp_all<;>omega
theorem Jnw(a b:Int): sgn a b = -1∨sgn a b=0∨sgn a b=1:=by
 unfold sgn;split
 .simp
 .split<;>simp
theorem Qxt: ∀ x y:List UInt8,Lib.compareBytes y x = - Lib.compareBytes x y
 | [],[]=>rfl
 | [],_::_=>rfl
 | _::_,[]=>rfl
 | a::x,b::y=>by
  simp only [Lib.compareBytes];have ih:=Qxt x y;simp only [UInt8.lt_iff_toNat_lt];by_cases h:a.toNat<b.toNat
  .rw [if_pos h,if_neg om,if_pos h];rfl
  .rw [if_neg h];by_cases h2:b.toNat<a.toNat
   .rw [if_pos h2,if_neg h,if_pos h2]
   .rw [if_neg h2,if_neg h,if_neg h2];exact ih
theorem Qxq: ∀ x y:List UInt8,Lib.compareBytes x y=0->x=y
 | [],[],_=>rfl
 | [],_::_,h=>by simp [Lib.compareBytes]at h
 | _::_,[],h=>by simp [Lib.compareBytes]at h
 | a::x,b::y,h=>by
  simp only [Lib.compareBytes,UInt8.lt_iff_toNat_lt]at h;split at h
  .cases h
  .split at h
   .cases h
   .rw [Qxq x y h,UInt8.toNat_inj.1 (show a.toNat=b.toNat by omega)]
theorem Qxr: ∀ x y z:List UInt8,Lib.compareBytes x y<=0->Lib.compareBytes y z<=0->Lib.compareBytes x z<=0
 | [],_,[],_,_=>by simp [Lib.compareBytes]
 | [],_,_::_,_,_=>by simp [Lib.compareBytes]
 | _::_,[],_,h,_=>by simp [Lib.compareBytes]at h
 | _::_,_::_,[],_,h=>by simp [Lib.compareBytes]at h
 | a::x,b::y,c::z,h1,h2=>by
  simp only [Lib.compareBytes,UInt8.lt_iff_toNat_lt]at *;split at h1
  .split at h2
   .rw [if_pos om];decide
   .split at h2
    .exact absurd h2 (by decide)
    .rw [if_pos om];decide
  .split at h1
   .exact absurd h1 (by decide)
   .split at h2
    .rw [if_pos om];decide
    .split at h2
     .exact absurd h2 (by decide)
     .rw [if_neg om,if_neg om];exact Qxr x y z h1 h2
theorem cb_3: ∀ x y:List UInt8,Lib.compareBytes x y = -1∨Lib.compareBytes x y=0∨Lib.compareBytes x y=1
 | [],[]=>by simp [Lib.compareBytes]
 | [],_::_=>by simp [Lib.compareBytes]
 | _::_,[]=>by simp [Lib.compareBytes]
 | a::x,b::y=>by
  simp only [Lib.compareBytes];split
  .simp
  .split
   .simp
   .exact cb_3 x y
theorem V.ext{a b:V}(h1:a.kind=b.kind)(h2:a.num=b.num)(h3:a.bytes=b.bytes): a=b:=by
 obtain ⟨k,n,s⟩:=a;obtain ⟨C,u,o⟩:=b;simp only [V.bytes]at *;obtain ⟨d⟩:=s;obtain ⟨G⟩:=o;simp only at h1 h2 h3;rw [h1,h2,Array.toList_inj.1 h3]
theorem Jvf{a b:Int}(h:a≠b): sgn a b≠0:=λe=>h (cmp_sgn.zero _ _ e)
theorem Qqr(a b:V): cmpV a b = -1∨cmpV a b=0∨cmpV a b=1:=by
 unfold cmpV;split
 .exact Jnw _ _
 .split
  .exact Jnw _ _
  .exact cb_3 _ _
theorem cmp_V: Cmp cmpV:=by
 refine ⟨λa b=>?_,λa b h=>?_,λa b c u o=>?_⟩
 .unfold cmpV;by_cases h:a.kind=b.kind
  .rw [if_neg (not_not_intro h),if_neg (not_not_intro h.symm)];by_cases o:a.num=b.num
   .rw [if_neg (not_not_intro o),if_neg (not_not_intro o.symm)];exact Qxt _ _
   .rw [if_pos o,if_pos (Ne.symm o)];exact cmp_sgn.anti _ _
  .rw [if_pos h,if_pos (Ne.symm h)];exact cmp_sgn.anti _ _
 .unfold cmpV at h;split at h
  .rename_i u;exact absurd h (Jvf u)
  .rename_i u;split at h
   .rename_i o;exact absurd h (Jvf o)
   .rename_i o;exact V.ext (by simpa using u) (by simpa using o) (Qxq _ _ h)
 .unfold cmpV at *;by_cases k1:a.kind=b.kind<;>by_cases k2:b.kind=c.kind
  .have J:a.kind=c.kind:=k1.trans k2;rw [if_neg (by simp [k1])]at u;rw [if_neg (by simp [k2])]at o;rw [if_neg (by simp [J])];by_cases n1:a.num=b.num<;>by_cases n2:b.num=c.num
   .rw [if_neg (by simp [n1])]at u;rw [if_neg (by simp [n2])]at o;rw [if_neg (by simp [n1,n2])];exact Qxr _ _ _ u o
   .rw [if_pos n2]at o;rw [n1,if_pos n2];exact o
   .rw [if_pos n1]at u;rw [<-n2,if_pos n1];exact u
   .rw [if_pos n1]at u;rw [if_pos n2]at o;have G:=cmp_sgn.lt_le (a:=a.num) (c:=c.num) (by have:=Jvf n1;omega) o;have C:a.num≠c.num:=by intro e;rw [e,cmp_sgn.refl]at G;omega
    rw [if_pos C];omega
  .rw [if_pos k2]at o;rw [k1,if_pos k2];exact o
  .rw [if_pos k1]at u;rw [<-k2,if_pos k1];exact u
  .rw [if_pos k1]at u;rw [if_pos k2]at o;have G:=cmp_sgn.lt_le (a:=a.kind) (c:=c.kind) (by have:=Jvf k1;omega) o;have C:a.kind≠c.kind:=by intro e;rw [e,cmp_sgn.refl]at G;omega
   rw [if_pos C];omega
theorem Zh(a:V): cmpV a a=0:=cmp_V.refl a
theorem Jsh(d:Bool): neg d 0=0:=by cases d<;>rfl
theorem Jkz(d:Bool): Cmp λa b=>neg d (cmpV a b):=by
 cases d
 .exact cmp_V
 .exact cmp_V.flip
theorem Jwb: ∀ (a b:List V) (ds:List Bool),Jw b a ds = - Jw a b ds
 | [],[],_=>rfl
 | [],_::_,_=>rfl
 | _::_,[],_=>rfl
 | x::a,y::b,ds=>by
  simp only [Jw];have h:=cmp_V.anti x y;by_cases e:cmpV x y=0
  .rw [if_pos e,if_pos om];exact Jwb a b _
  .rw [if_neg e,if_neg om];exact (Jkz _).anti x y
theorem Jxs: ∀ (a b:List V) (ds:List Bool),Jw a b ds=0->a=b
 | [],[],_,_=>rfl
 | [],_::_,_,h=>by simp [Jw]at h
 | _::_,[],_,h=>by simp [Jw]at h
 | x::a,y::b,ds,h=>by
  simp only [Jw]at h;split at h
  .rename_i e;rw [cmp_V.zero _ _ e,Jxs a b _ h]
  .rename_i e;exact absurd (congrArg (cmpV x) ((Jkz _).zero x y h)) (by rw [Zh];intro e2;exact e e2.symm)
theorem Jyw: ∀ (a b c:List V) (ds:List Bool),Jw a b ds<=0->Jw b c ds<=0->Jw a c ds<=0
 | [],_,[],_,_,_=>by simp [Jw]
 | [],_,_::_,_,_,_=>by simp [Jw]
 | _::_,[],_,_,h,_=>by simp [Jw]at h
 | _::_,_::_,[],_,_,h=>by simp [Jw]at h
 | x::a,y::b,z::c,ds,h1,h2=>by
  simp only [Jw]at *;have N:=Jkz (ds.getD 0 false);by_cases e1:cmpV x y=0
  .rw [if_pos e1]at h1;rw [cmp_V.zero _ _ e1];by_cases e2:cmpV y z=0
   .rw [if_pos e2]at h2 ⊢;exact Jyw a b c _ h1 h2
   .rw [if_neg e2]at h2 ⊢;exact h2
  .rw [if_neg e1]at h1;by_cases e2:cmpV y z=0
   .rw [<-cmp_V.zero _ _ e2,if_neg e1];exact h1
   .rw [if_neg e2]at h2;have hne:neg (ds.getD 0 false) (cmpV x y)≠0:=λe=>e1 (by have:=N.zero x y e;rw [this];exact Zh y);have h3:=N.lt_le (a:=x) (b:=y) (c:=z) om h2;have e3:cmpV x z≠0:=by intro e;simp only [e,Jsh]at h3;omega
    rw [if_neg e3];omega
theorem Gd(ds:List Bool): Cmp λa b=>Jw a b ds:=⟨λa b=>Jwb a b ds,λa b h=>Jxs a b ds h,λa b c u o=>Jyw a b c ds u o⟩
theorem Yw(a:List V)(ds:List Bool): Jw a a ds=0:=(Gd ds).refl a
open Go.RowKit Pl Go.Wk
attribute [local irreducible] WC WL QX WD WDB
variable {ds:List Bool}{a b:List V}{k:Nat}{va vb vd:Value}{w:World}
def RowV(w:World)(v:Value)(r:List V): Prop:=∃ A c,v=.slice A r.length c/\r.length<=c/\r.length<=1100000/\RdR w A r
def BoolsV(w:World)(v:Value)(ds:List Bool): Prop:=∃ A c,v=.slice A ds.length c/\ds.length<=c/\ds.length<=1100000/\RdB w A ds
theorem RowV.ext{w w':World}{v:Value}{r:List V}(h:RowV w v r)(hx:Ext w w'): RowV w' v r:=by
 obtain ⟨A,c,G,C,u,o⟩:=h;exact ⟨A,c,G,C,u,o.ext hx⟩
theorem BoolsV.ext{w w':World}{v:Value}{r:List Bool}(h:BoolsV w v r)(hx:Ext w w'): BoolsV w' v r:=by
 obtain ⟨A,c,G,C,u,o⟩:=h;exact ⟨A,c,G,C,u,o.ext hx⟩
theorem RowV.nil(w:World)(A:Option Addr)(c:Nat): RowV w (.slice A 0 c) []:=⟨A,c,rfl,by simp,by simp,Rd.nil⟩
theorem BoolsV.nil(w:World)(A:Option Addr)(c:Nat): BoolsV w (.slice A 0 c) []:=⟨A,c,rfl,by simp,by simp,Rd.nil⟩
theorem Qxc(ha:k<a.length)(hb:k<b.length): Jw (a.drop k) (b.drop k) (ds.drop k) =
  if cmpV (a.getD k V0) (b.getD k V0)=0 then Jw (a.drop (k+1)) (b.drop (k+1)) (ds.drop (k+1)) else neg (ds.getD k false) (cmpV (a.getD k V0) (b.getD k V0)):=by
 rw [List.drop_eq_getElem_cons ha,List.drop_eq_getElem_cons hb,Jw];have C:a.getD k V0=a[k]:=by simp [List.getD,List.getElem?_eq_getElem ha]
 have u:b.getD k V0=b[k]:=by simp [List.getD,List.getElem?_eq_getElem hb]
 have o:(ds.drop k).getD 0 false=ds.getD k false:=by simp [List.getD,List.getElem?_drop]
 rw [C,u,o,List.drop_drop]
theorem Qqx(hk:a.length<=k∨b.length<=k)(hka:k<=a.length)(hkb:k<=b.length): Jw (a.drop k) (b.drop k) (ds.drop k)=if a.length<b.length then -1 else if b.length<a.length then 1 else 0:=by
 rcases Nat.lt_trichotomy a.length b.length with h|h|h
 .rw [if_pos h,List.drop_of_length_le (by omega:a.length<=k),List.drop_eq_getElem_cons (by omega:k<b.length)];rfl
 .rw [if_neg om,if_neg om,List.drop_of_length_le (by omega:a.length<=k),List.drop_of_length_le (by omega:b.length<=k)];rfl
 .rw [if_neg om,if_pos h,List.drop_of_length_le (by omega:b.length<=k),List.drop_eq_getElem_cons (by omega:k<a.length)];rfl
theorem Jld(a b:V): IntKind.i64.wrap (0-cmpV a b)=neg true (cmpV a b):=by
 rcases Qqr a b with h|h|h<;>rw [h]<;>rfl
theorem Qhh(n m:Nat): (if (m:Int)<(n:Int) then (m:Int) else (n:Int))=((min n m:Nat):Int):=by split<;>omega
theorem Qpz(ha:RowV w va a)(hb:RowV w vb b)(hd:BoolsV w vd ds):
  Ret Tryz.prog 51 [va,vb,vd] w λr w'=>r=.int .i64 (Jw a b ds)/\Ext w w':=by
 obtain ⟨A,ac,rfl,ak,aj,ha⟩:=ha;obtain ⟨B,bc,rfl,ai,ah,hb⟩:=hb;obtain ⟨D,dc,rfl,af,ae,hd⟩:=hd;refine Jz Tryz.func51 Tryz.ntmps51 rfl kr rfl ?_;refine ρ ?_;rw [Qhh];refine Qd (λk=>[(0,.slice A a.length ac),(1,.slice B b.length bc),(2,.slice D ds.length dc),(13,.int .i64 ((min a.length b.length:Nat):Int)),(14,.int .i64 ((k:Nat):Int))])
  (λk w'=>Ext w w'/\k<=a.length/\k<=b.length/\Jw a b ds=Jw (a.drop k) (b.drop k) (ds.drop k)) (λk=>a.length-k) 0 sB ⟨Ext.refl w,Nat.zero_le _,Nat.zero_le _,rfl⟩ ?_
 rintro k w1 ⟨J,a9,a8,he⟩;have ab:=ha.ext J;have aa:=hb.ext J;have ag:=hd.ext J;refine ρ ?_;have a7:(a.length<=k∨b.length<=k)->Jw a b ds=if a.length<b.length then -1 else if b.length<a.length then 1 else 0:=λh=>by rw [he,Qqx h a9 a8]
 refine ci (λh=>?_) (λh=>?_)
 .have ad:k<min a.length b.length:=by have:=oT h;omega
  have Z:k<a.length:=om
  have U:k<b.length:=om
  refine ρ ?_;refine dr [(0,0),(0,1),(0,2),(0,3),(0,4),(0,5),(0,6),(0,7),(1,8),(0,9)] kr ?_;have G:Ext w1 w1.drew:=(Ext.refl w1).drew;have a6:=ab.ext G;have a5:=aa.ext G;refine ρd ?_;refine Kw 3 k a6 Z ?_;refine ρd ?_;refine Qz (λj u hu=>RdR.cell a6 Z hu) ?_;refine ρd ?_;refine Kw 3 k a5 U ?_;refine ρd ?_;refine Qz (λj u hu=>RdR.cell a5 U hu) ?_;refine ρd ?_;refine dcl (Jqd (a.getD k V0) (b.getD k V0) _) ?_;rintro x w2 ⟨rfl,a2⟩;refine ⟨a2,?_⟩;have o:Ext w w2:=(J.trans G).trans a2;have a4:=hd.ext o;refine ρd ?_;refine ρ ?_;have step:=Qxc (ds:=ds) Z U;refine ci (λh0=>?_) (λh0=>?_)
  .refine ρ ?_;refine Qw (k+1) sB ⟨o,om,om,?_⟩ om;rw [he,step,if_pos (Xl h0)]
  have O:=Xm h0;refine ρ ?_;refine ki 32 (λh=>?_) (λh=>?_)
  .have a3:k<ds.length:=by have:=oT h;omega
   refine ρ ?_;refine ix k a4 a3 ?_;refine ρ ?_;refine ld (RdB.cell a4 a3) ?_;refine ρ ?_;refine ci (λC=>?_) (λC=>?_)
   .refine ρ ?_;refine Jj ⟨?_,o⟩;rw [Jld,he,step,C,if_neg O]
   .refine ρ ?_;refine Jj ⟨?_,o⟩;rw [he,step,C,if_neg O];rfl
  .have C:ds.getD k false=false:=by
    have:=oF h;simp [List.getD,List.getElem?_eq_none (show ds.length<=k by omega)]
   refine ρ ?_;refine Jj ⟨?_,o⟩;rw [he,step,C,if_neg O];rfl
 .have a1:=a7 (by have:=oF h;omega);refine ρ ?_;refine ci (λh=>?_) (λC=>?_)
  .refine ρ ?_;refine Jj ⟨?_,J⟩;rw [a1,if_pos (by have:=oT h;omega)]
  refine ρ ?_;refine ci (λh=>?_) (λh2=>?_)
  .refine ρ ?_;refine Jj ⟨?_,J⟩;rw [a1,if_neg (by have:=oF C;omega),if_pos (by have:=oT h;omega)]
  .refine ρ ?_;refine Jj ⟨?_,J⟩;rw [a1,if_neg (by have:=oF C;omega),if_neg (by have:=oF h2;omega)]
theorem Jpl(ha:RowV w va a)(hb:RowV w vb b):
  Ret Tryz.prog 121 [va,vb] w λr w'=>r=.int .i64 (Jw a b [])/\Ext w w':=by
 refine Jz Tryz.func121 Tryz.ntmps121 rfl kr rfl ?_;refine ρ ?_;refine cl (Qpz ha hb (BoolsV.nil w none 0)) ?_;rintro v u ⟨rfl,o⟩;refine ρ ?_;exact Jj ⟨rfl,o⟩
theorem Qrq(a b:List V)(ds:List Bool): (Jw a b ds == 0)=true↔a=b:=by
 constructor
 .intro h;exact Jxs _ _ _ (Xl h)
 .intro h;rw [h,Yw];rfl
instance:DecidableEq V:=λa b=>if h:cmpV a b=0 then isTrue (cmp_V.zero _ _ h) else isFalse (λe=>h (by rw [e];exact Zh b))
theorem Qrp(a b:List V)(ds:List Bool): (Jw a b ds == 0)=decide (a=b):=by
 rw [Bool.eq_iff_iff,Qrq,decide_eq_true_iff]
theorem Jpk(ha:RowV w va a)(hb:RowV w vb b):
  Ret Tryz.prog 124 [va,vb] w λr w'=>r=.bool (decide (a=b))/\Ext w w':=by
 refine Jz Tryz.func124 Tryz.ntmps124 rfl kr rfl ?_;refine ρ ?_;refine cl (Jpl ha hb) ?_;rintro v u ⟨rfl,o⟩;refine ρ ?_;refine Jj ⟨?_,o⟩;rw [Qrp]
open Go.RowKit Pl Go.Wk
attribute [local irreducible] WP
variable {j k x:Nat}
def Ju(x:Nat): Nat:=if x=0 then 0 else Nat.log2 x+1
theorem Jfg: x<2^Ju x:=by
 unfold Ju;split
 .omega
 .exact Nat.lt_log2_self
theorem Jtd(h:x≠0): 0<Ju x/\2^(Ju x-1)<=x:=by
 unfold Ju;rw [if_neg h];exact ⟨om,by simpa using Nat.log2_self_le h⟩
theorem Jxh(h:x<2^k): Ju x<=k:=by
 unfold Ju;split
 .omega
 .rename_i h0;have:=(Nat.log2_lt h0).2 h;omega
theorem Qlg(h1:2^k<=x)(h2:x<2^(k+1)): Ju x=k+1:=by
 have u:=Jxh h2;have o:=Jfg (x:=x);rcases Nat.lt_or_ge (Ju x) (k+1) with h|h
 .have:=Nat.pow_le_pow_right (show 0<2 by omega) (show Ju x<=k by omega);omega
 .omega
theorem Jkf(h:2^k<=x): Ju x=k+Ju (x / 2^k):=by
 have o:0<2^k:=Nat.pow_pos om;have u:x / 2^k≠0:=by
  have:=(Nat.le_div_iff_mul_le o).2 (show 1*2^k<=x by omega);omega
 obtain ⟨a,b⟩:=Jtd u;have c:=Jfg (x:=x / 2^k);generalize Ju (x / 2^k)=m at *
 obtain ⟨m,rfl⟩:∃ j,m=j+1:=⟨m-1,om⟩;rw [Nat.add_sub_cancel]at b;have:=Qlg (x:=x) (k:=k+m) (by rw [Nat.pow_add];have:=(Nat.le_div_iff_mul_le o).1 b;rw [Nat.mul_comm];exact this) (by
  rw [show k+m+1=(m+1)+k by omega,Nat.pow_add];exact (Nat.div_lt_iff_lt_mul o).1 c)
 omega
theorem tabB(s:ByteArray)(h:((List.range 256).all λj=>(s.data.toList.getD j 0).toNat == Ju j)=true)(hj:j<256): (s.data.toList.getD j 0).toNat=Ju j:=by
 have:=List.all_eq_true.1 h j (List.mem_range.2 hj);simpa using this
theorem Jzm(y k m:Nat): ((y:Int)).fdiv (2^(min ((k:Nat):Int).toNat m))=((y / 2^(min k m):Nat):Int):=by
 rw [Int.toNat_natCast,Int.fdiv_eq_ediv_of_nonneg _ (Int.le_of_lt (Int.pow_pos om))];rw [Int.natCast_ediv];rfl
theorem Qlh(x:Nat)(hx:x<18446744073709551616)(w:World): Ret Tryz.prog 140 [.int .u64 (x:Int)] w λv w'=>v=.int .i64 (Ju x:Int)/\w'=w:=by
 refine Jz Tryz.func140 Tryz.ntmps140 rfl kr rfl ?_;refine ρ ?_;refine Ik (fun (y s:Nat)=>[(0,.int .u64 (y:Int)),(2,.int .i64 (s:Int))]) (λy s w'=>w'=w/\Ju x=s+Ju y/\y<4294967296/\s<=32) ?_ ?_
 .refine ci (λh=>?_) (λh=>?_)
  .have G:=oT h;refine ρ ?_;refine Ym rfl rfl (by decide) rfl ?_;refine kv 6 (u:=.int .u64 ((x / 2^32:Nat):Int)) (congrArg (Value.int .u64) (Jzm x 32 64)) ?_;refine ρ ?_;have e:=Jkf (x:=x) (k:=32) om;exact Za (x / 2^32) 32 sO ⟨rfl,e,om,om⟩
  .have G:=oF h;refine ρ ?_;exact Za x 0 sO ⟨rfl,om,om,om⟩
 rintro C U w ⟨rfl,e0,b0,c0⟩;refine ρ ?_;refine Ik (fun (y s:Nat)=>[(0,.int .u64 (y:Int)),(2,.int .i64 (s:Int))]) (λy s w'=>w'=w/\Ju x=s+Ju y/\y<65536/\s<=48) ?_ ?_
 .refine ci (λh=>?_) (λh=>?_)
  .have G:=oT h;refine ρ ?_;refine Ym rfl rfl (by decide) rfl ?_;refine kv 10 (u:=.int .u64 ((C / 2^16:Nat):Int)) (congrArg (Value.int .u64) (Jzm C 16 64)) ?_;refine ρ ?_;have e:=Jkf (x:=C) (k:=16) om;exact Za (C / 2^16) (U+16) sO ⟨rfl,om,om,om⟩
  .have G:=oF h;refine ρ ?_;exact Za C U sO ⟨rfl,om,om,om⟩
 rintro o O w ⟨rfl,e1,b1,c1⟩;refine ρ ?_;refine Ik (fun (y s:Nat)=>[(0,.int .u64 (y:Int)),(2,.int .i64 (s:Int))]) (λy s w'=>w'=w/\Ju x=s+Ju y/\y<256/\s<=56) ?_ ?_
 .refine ci (λh=>?_) (λh=>?_)
  .have G:=oT h;refine ρ ?_;refine Ym rfl rfl (by decide) rfl ?_;refine kv 16 (u:=.int .u64 ((o / 2^8:Nat):Int)) (congrArg (Value.int .u64) (Jzm o 8 64)) ?_;refine ρ ?_;have e:=Jkf (x:=o) (k:=8) om;exact Za (o / 2^8) (O+8) sO ⟨rfl,om,om,om⟩
  .have G:=oF h;refine ρ ?_;exact Za o O sO ⟨rfl,om,om,om⟩
 rintro J s2 w ⟨rfl,e2,Z,c2⟩;refine ρ ?_;refine Jlc Jzh J rfl rfl rfl rfl ?_ ?_ rfl ?_
 .rw [IntKind.wrap_u8];omega
 .exact nM Z (by decide)
 refine kv 22 (u:=.int .u8 (Ju J:Int)) (congrArg (λz:Nat=>Value.int .u8 (z:Int)) (tabB _ kr Z)) ?_;have:=Jxh (x:=J) (k:=8) om;refine ρ ?_;refine Jj ⟨?_,rfl⟩;rw [Yh (z:=(Ju J:Int)) om,Yh om];congr 1;omega
theorem Jtf(x:Nat)(hx:x<4294967296)(w:World): Ret Tryz.prog 139 [.int .u32 (x:Int)] w λv w'=>v=.int .i64 (Ju x:Int)/\w'=w:=by
 refine Jz Tryz.func139 Tryz.ntmps139 rfl kr rfl ?_;refine ρ ?_;refine Ik (fun (y s:Nat)=>[(0,.int .u32 (y:Int)),(2,.int .i64 (s:Int))]) (λy s w'=>w'=w/\Ju x=s+Ju y/\y<65536/\s<=16) ?_ ?_
 .refine ci (λh=>?_) (λh=>?_)
  .have G:=oT h;refine ρ ?_;refine Ym rfl rfl (by decide) rfl ?_;refine kv 6 (u:=.int .u32 ((x / 2^16:Nat):Int)) (congrArg (Value.int .u32) (Jzm x 16 32)) ?_;refine ρ ?_;have e:=Jkf (x:=x) (k:=16) om;exact Za (x / 2^16) 16 sO ⟨rfl,e,om,om⟩
  .have G:=oF h;refine ρ ?_;exact Za x 0 sO ⟨rfl,om,om,om⟩
 rintro o J w ⟨rfl,e0,b0,c0⟩;refine ρ ?_;refine Ik (fun (y s:Nat)=>[(0,.int .u32 (y:Int)),(2,.int .i64 (s:Int))]) (λy s w'=>w'=w/\Ju x=s+Ju y/\y<256/\s<=24) ?_ ?_
 .refine ci (λh=>?_) (λh=>?_)
  .have G:=oT h;refine ρ ?_;refine Ym rfl rfl (by decide) rfl ?_;refine kv 10 (u:=.int .u32 ((o / 2^8:Nat):Int)) (congrArg (Value.int .u32) (Jzm o 8 32)) ?_;refine ρ ?_;have e:=Jkf (x:=o) (k:=8) om;exact Za (o / 2^8) (J+8) sO ⟨rfl,om,om,om⟩
  .have G:=oF h;refine ρ ?_;exact Za o J sO ⟨rfl,om,om,om⟩
 rintro C U w ⟨rfl,Z,O,c1⟩;refine ρ ?_;refine Jlc Jzh C rfl rfl rfl rfl ?_ ?_ rfl ?_
 .rw [IntKind.wrap_u8];omega
 .exact nM O (by decide)
 refine kv 16 (u:=.int .u8 (Ju C:Int)) (congrArg (λz:Nat=>Value.int .u8 (z:Int)) (tabB _ kr O)) ?_;have:=Jxh (x:=C) (k:=8) om;refine ρ ?_;refine Jj ⟨?_,rfl⟩;rw [Yh (z:=(Ju C:Int)) om,Yh om];congr 1;omega
theorem Qzk(x:Nat)(h:x<18446744073709551616)(w:World): Ret Tryz.prog 88 [.int .u64 (x:Int)] w λv w'=>v=.int .i64 (Ju x:Int)/\w'=w:=by
 refine Jz Tryz.func88 Tryz.ntmps88 rfl kr rfl ?_;refine ρ ?_;refine cl (Qlh x h w) ?_;rintro v w' ⟨rfl,rfl⟩;refine ρ ?_;exact Jj ⟨rfl,rfl⟩
end Go.Proofs.YtebcagekopgdhaaGreatDoor
namespace Go.Proofs.YtebcagekopgdhaaGreatDoor
variable {a a' b b' i j:Nat}
section
variable {α:Type} (z:α)
def swp(q:List α)(i j:Nat): List α:=(q.set i (q.getD j z)).set j (q.getD i z)
theorem Qyz(q:List α)(i j:Nat): (swp z q i j).length=q.length:=by simp [swp]
theorem Jxm(q:List α)(i k:Nat)(x:α)(hi:i<q.length): (q.set i x).getD k z=if k=i then x else q.getD k z:=by
 simp only [List.getD,List.getElem?_set];by_cases h:i=k
 .subst h;simp [hi]
 .rw [if_neg h,if_neg (Ne.symm h)]
theorem Jcg(q:List α)(hi:i<q.length)(hj:j<q.length)(k:Nat): (swp z q i j).getD k z=if k=j then q.getD i z else if k=i then q.getD j z else q.getD k z:=by
 unfold swp;rw [Jxm z _ _ _ _ (by simpa using hj),Jxm z _ _ _ _ hi]
theorem Jp(q:List α)(h:i<q.length): q.getD i z=q[i]:=by simp [List.getD,List.getElem?_eq_getElem h]
theorem Jmx(q:List α)(hi:i<q.length)(hj:j<q.length): (swp z q i j).Perm q:=by
 unfold swp;rw [Jp z q hi,Jp z q hj];exact List.set_set_perm hi hj
theorem getD_mem'(q:List α)(h:i<q.length): q.getD i z∈q:=by rw [Jp z q h];exact List.getElem_mem h
structure Seg(a b:Nat)(q q':List α): Prop where
 perm:q'.Perm q
 lo:∀ k,k<a->q'.getD k z=q.getD k z
 hi:∀ k,b<=k->q'.getD k z=q.getD k z
variable {z}
theorem Seg.len{q q':List α}(h:Seg z a b q q'): q'.length=q.length:=h.perm.length_eq
theorem Seg.refl(a b:Nat)(q:List α): Seg z a b q q:=⟨List.Perm.refl _,λ_ _=>rfl,λ_ _=>rfl⟩
theorem Seg.trans{a b:Nat}{q q' q'':List α}(h:Seg z a b q q')(k:Seg z a b q' q''): Seg z a b q q'' :=
 ⟨k.perm.trans h.perm,λi hi=>(k.lo i hi).trans (h.lo i hi),λi hi=>(k.hi i hi).trans (h.hi i hi)⟩
theorem Seg.mono{q q':List α}(h:Seg z a b q q')(h1:a'<=a)(h2:b<=b'): Seg z a' b' q q' :=
 ⟨h.perm,λi hi=>h.lo i om,λi hi=>h.hi i om⟩
theorem Seg.swp{q:List α}(h1:a<=i)(h2:i<b)(h3:a<=j)(h4:j<b)(hb:b<=q.length): Seg z a b q (swp z q i j) :=
 ⟨Jmx z q om om,λk o=>by rw [Jcg z q om om,if_neg om,if_neg om],λk o=>by rw [Jcg z q om om,if_neg om,if_neg om]⟩
theorem Qjh{q q':List α}(hl:q'.length=q.length)(h:∀ k,k<q.length->q'.getD k z=q.getD k z): q'=q:=by
 apply List.ext_getElem hl
 intro i u o;have:=h i o;rw [Jp z q o,Jp z q' u]at this;exact this
theorem getD_take(q:List α)(a k:Nat)(h:k<a): (q.take a).getD k z=q.getD k z:=by simp [List.getD,h]
theorem Jyn(q:List α)(a k:Nat): (q.drop a).getD k z=q.getD (a+k) z:=by simp [List.getD,List.getElem?_drop]
theorem Seg.all{q q':List α}(h:Seg z a b q q')(hab:a<=b)(hb:b<=q.length){Φ:α->Prop}(H:∀ k,a<=k->k<b->Φ (q.getD k z)): ∀ k,a<=k->k<b->Φ (q'.getD k z):=by
 intro k h1 U;have C:=h.len;have e1:q'.take a=q.take a:=Qjh (z:=z) (by simp [C]) (λi hi=>by
  have o:i<a:=by simp at hi;omega
  rw [getD_take _ _ _ o,getD_take _ _ _ o];exact h.lo i o)
 have Z:q'.drop b=q.drop b:=Qjh (z:=z) (by simp [C]) (λi hi=>by
  rw [Jyn,Jyn];exact h.hi _ om)
 have s:∀ l:List α,l=l.take a++((l.take b).drop a++l.drop b):=λl=>by
  rw [<-List.append_assoc];have:l.take a=(l.take b).take a:=by rw [List.take_take];congr 1;omega
  rw [this,List.take_append_drop,List.take_append_drop]
 have p:=h.perm;rw [s q',s q,e1,Z]at p;have G:=(List.perm_append_right_iff _).1 ((List.perm_append_left_iff _).1 p);have J:q'.getD k z∈(q'.take b).drop a:=by
  have e:((q'.take b).drop a).getD (k-a) z=q'.getD k z:=by
   rw [Jyn,show a+(k-a)=k by omega,getD_take _ _ _ U]
  rw [<-e];apply getD_mem'
  simp [C];omega
 have u:=G.mem_iff.1 J;obtain ⟨i,hi,O⟩:=List.getElem_of_mem u;have:((q.take b).drop a).getD i z=q'.getD k z:=by rw [Jp z _ hi,O]
 have o:i+a<b:=by simp at hi;omega
 rw [<-this,Jyn,getD_take _ _ _ om];exact H _ om om
end
section
variable {α:Type} (z:α) (f:α->α->Int)
def SOn(q:List α)(a b:Nat): Prop:=∀ i j,a<=i->i<j->j<b->f (q.getD i z) (q.getD j z)<=0
variable {z f}
theorem SOn.mono{q:List α}(h:SOn z f q a b)(h1:a<=a')(h2:b'<=b): SOn z f q a' b':=λi j hi o u=>h i j om o om
theorem SOn.same{q q':List α}(h:SOn z f q a b)(he:∀ k,a<=k->k<b->q'.getD k z=q.getD k z): SOn z f q' a b:=λi j hi o u=>by
 rw [he i hi om,he j om u];exact h i j hi o u
theorem SOn.one(q:List α)(h:b<=a+1): SOn z f q a b:=λi j hi o u=>by omega
def InsI(z:α)(f:α->α->Int)(q:List α)(a i j:Nat): Prop:=a<=j/\j<=i/\(∀ k m,a<=k->k<m->m<=i->k≠j->m≠j->f (q.getD k z) (q.getD m z)<=0)/\(∀ m,j<m->m<=i->f (q.getD j z) (q.getD m z)<=0)
theorem InsI.start{q:List α}(h:SOn z f q a i)(hi:a<=i): InsI z f q a i i :=
 ⟨hi,Nat.le_refl _,λk m u o J G C=>h k m u o om,λm u o=>om⟩
theorem InsI.step{q:List α}(h:InsI z f q a i j)(hj:a<j)(hi:i<q.length)(hlt:f (q.getD j z) (q.getD (j-1) z)<0): InsI z f (swp z q j (j-1)) a i (j-1):=by
 obtain ⟨h1,Z,C,U⟩:=h;have s:=λk=>Jcg z q (i:=j) (j:=j-1) om om k;refine ⟨om,om,λk m u o G O J=>?_,λm u o=>?_⟩
 .rw [s,s,if_neg O,if_neg J];by_cases e:k=j
  .subst e;rw [if_pos rfl,if_neg om];exact C (k-1) m om om G om om
  .rw [if_neg e];by_cases e2:m=j
   .subst e2;rw [if_pos rfl];exact C k (m-1) u om om e om
   .rw [if_neg e2];exact C k m u o G e e2
 .rw [s,s,if_pos rfl,if_neg om];by_cases e2:m=j
  .rw [if_pos e2];omega
  .rw [if_neg e2];exact U m om o
theorem InsI.done0{q:List α}(h:InsI z f q a i a): SOn z f q a (i+1):=by
 obtain ⟨U,O,G,C⟩:=h;intro k m u o J;by_cases e:k=a
 .subst e;exact C m o om
 .exact G k m u o om e om
theorem InsI.done{q:List α}(hf:PreC f)(h:InsI z f q a i j)(hj:a<j)(hge:¬ f (q.getD j z) (q.getD (j-1) z)<0): SOn z f q a (i+1):=by
 obtain ⟨Z,U,G,J⟩:=h;have o:f (q.getD (j-1) z) (q.getD j z)<=0:=by have:=hf.anti (q.getD j z) (q.getD (j-1) z);omega
 intro k m C u O;by_cases e:k=j
 .subst e;exact J m u om
 .by_cases e2:m=j
  .subst e2;by_cases e3:k=m-1
   .rw [e3];exact o
   .exact hf.trans _ _ _ (G k (m-1) C om om e om) o
  .exact G k m C u om e e2
end
open Go.RowKit Pl Go.Wk
attribute [local irreducible] WC WL QX WD WDB WP
variable {base c i j n:Nat}{A:Option Addr}{fv v:Value}{w w':World}
abbrev Pr:= Value×List V
def z0: Pr:=(undef,[])
def Dat(w:World)(base:Nat)(v:Value)(ps:List Pr): Prop:=w.ownsRow base 37 1 v ps.length (ps.map (·.1))/\∀ p∈ps,p.1.oneCell'=true
theorem Dat.ext{ps:List Pr}(h:Dat w base v ps)(hx:Ext w w'): Dat w' base v ps:=⟨Jk h.1 hx,h.2⟩
theorem Dat.rd{ps:List Pr}(h:Dat w base (.slice A n c) ps)(hn:ps.length=n): Rd w 1 A n (ps.map (·.1)):=by
 have:=h.1;rw [hn]at this;exact Rd.own this
theorem Ia{ps:List Pr}(h:i<ps.length): (ps.map (·.1))[i]?=some (ps.getD i z0).1:=by simp [List.getD,List.getElem?_eq_getElem h]
theorem Dat.cell{w:World}{base:Nat}{A:Option Addr}{n c:Nat}{ps:List Pr}(h:Dat w base (.slice A n c) ps)(hn:ps.length=n){i:Nat}(hi:i<n): w.cell? (adr A i)=some (ps.getD i z0).1 :=
 (h.rd hn).cell (Ia om)
theorem Dat.one{ps:List Pr}(h:Dat w base v ps)(hi:i<ps.length): (ps.getD i z0).1.oneCell'=true:=h.2 _ (getD_mem' z0 ps hi)
theorem Dat.store{ps:List Pr}(h:Dat w base (.slice A n c) ps)(hn:ps.length=n)(hi:i<n){p:Pr}(hp:p.1.oneCell'=true):
  w.frozen? (adr A i)=false/\Dat (w.setCell (adr A i) p.1) base (.slice A n c) (ps.set i p)/\w.grownBy (w.setCell (adr A i) p.1) (Value.slice A n c).ownBlock:=by
 have o:=h.1;rw [hn]at o;obtain ⟨U,G,C,O,u⟩:=Zv o (q:=i) om p.1;refine ⟨G,⟨?_,λq J=>?_⟩,u⟩
 .rw [List.length_set,hn,List.map_set];exact C
 .rcases List.mem_or_eq_of_mem_set J with h'|h'
  .exact h.2 q h'
  .rw [h'];exact hp
theorem Dat.swap{ps:List Pr}(h:Dat w base (.slice A n c) ps)(hn:ps.length=n)(hi:i<n)(hj:j<n):
  w.frozen? (adr A i)=false/\Rd (w.setCell (adr A i) (ps.getD j z0).1) 1 A n ((ps.set i (ps.getD j z0)).map (·.1))/\(w.setCell (adr A i) (ps.getD j z0).1).frozen? (adr A j)=false /\
  (∃ u,(w.setCell (adr A i) (ps.getD j z0).1).cell? (adr A j)=some u)/\Dat ((w.setCell (adr A i) (ps.getD j z0).1).setCell (adr A j) (ps.getD i z0).1) base (.slice A n c) (swp z0 ps i j) /\
  w.grownBy ((w.setCell (adr A i) (ps.getD j z0).1).setCell (adr A j) (ps.getD i z0).1) (Value.slice A n c).ownBlock:=by
 obtain ⟨Z,C,U⟩:=h.store hn hi (p:=ps.getD j z0) (h.one om);have o:(ps.set i (ps.getD j z0)).length=n:=by simp [hn]
 obtain ⟨O,J,G⟩:=C.store o hj (p:=ps.getD i z0) (h.one om);exact ⟨Z,C.rd o,O,⟨_,C.cell o hj⟩,J,Zc U G⟩
def fP(ds:List Bool)(p q:Pr): Int:=Jw p.2 q.2 ds
theorem preP(ds:List Bool): PreC (fP ds):=(Gd ds).pre (β:=Pr) (λp=>p.2)
def CmpF(w:World)(row:Option Nat)(fv:Value)(M:List Pr)(ds:List Bool): Prop:=∃ fid first cap,fv=.func (.func fid) first cap /\
 ∀ w',w.grownBy w' row->∀ p q,p∈M->q∈M->Ret Tryz.prog fid (first.toList++[p.1,q.1]++cap.toList) w' λr w''=>r=.int .i64 (fP ds p q)/\Ext w' w''
theorem Qmj{a b:Nat}{ai bi:Int}{ps:List Pr}{ds:List Bool}(hD:Dat w base (.slice A n c) ps)(hn:ps.length=n)(hai:ai=(a:Int))(hbi:bi=(b:Int))(hb:b<=n)(ha:a<=n)(hmx:n<=140737488355328)(hC:CmpF w (Value.slice A n c).ownBlock fv ps ds):
  Ret Tryz.prog 169 [.slice A n c,.int .i64 ai,.int .i64 bi,fv] w λv w'=>∃ ps',Dat w' base (.slice A n c) ps'/\Seg z0 a b ps ps'/\SOn z0 (fP ds) ps' a b/\w.grownBy w' (Value.slice A n c).ownBlock:=by
 subst hai;subst hbi;obtain ⟨ab,first,ac,rfl,hC⟩:=hC;refine Jz Tryz.func169 Tryz.ntmps169 rfl kr rfl ?_;refine ρ ?_;refine Ja (fun (i:Nat) (q:List Pr)=>[(0,.slice A n c),(1,.int .i64 (a:Int)),(2,.int .i64 (b:Int)),(3,.func (.func ab) first ac),(8,.int .i64 ((i:Nat):Int))])
  (λi q w'=>a+1<=i/\(i<=b∨i=a+1)/\Seg z0 a b ps q/\SOn z0 (fP ds) q a i/\Dat w' base (.slice A n c) q/\w.grownBy w' (Value.slice A n c).ownBlock) (λi _=>b+1-i) (a+1) ps sO
  ⟨Nat.le_refl _,.inr rfl,Seg.refl _ _ _,SOn.one _ om,hD,Zg (Ext.refl w) _⟩ ?_
 rintro i q w1 ⟨hai,ag,a7,a8,aa,a6⟩;refine ρ ?_;refine ci (λh=>?_) (λh=>?_)
 .have af:i<b:=by have:=oT h;omega
  refine ρ ?_;refine Ja (fun (j:Nat) (q:List Pr)=>[(0,.slice A n c),(1,.int .i64 (a:Int)),(2,.int .i64 (b:Int)),(3,.func (.func ab) first ac),(8,.int .i64 ((i:Nat):Int)),(9,.int .i64 ((j:Nat):Int))])
   (λj q w'=>InsI z0 (fP ds) q a i j/\Seg z0 a b ps q/\Dat w' base (.slice A n c) q/\w.grownBy w' (Value.slice A n c).ownBlock) (λj _=>j) i q sB ⟨InsI.start a8 om,a7,aa,a6⟩ ?_
  rintro j q w2 ⟨hI,J,ae,ad⟩;have o:q.length=n:=by rw [J.len,hn]
  obtain ⟨h1,h2,_,_⟩:=id hI;refine ρ ?_;refine dr [(0,0),(0,1),(0,2),(0,3),(0,4),(0,5),(0,6),(0,7),(0,8),(0,9),(0,10),(0,11),(0,12),(0,13),(1,14),(0,15),(0,16)] kr ?_;have a4:Ext w2 w2.drew:=(Ext.refl w2).drew;have O:=ae.ext a4;have a2:=Zc ad (Zg a4 _);refine ρd ?_;refine dki 21 (λh=>?_) (λh=>?_)
  .have hj:a<j:=by have:=oT h;omega
   have Z:j<n:=om
   have G:j-1<n:=om
   refine ρd ?_;refine dix j (O.rd o) Z ?_;refine ρd ?_;refine dld (O.cell o Z) ?_;refine ρd ?_;refine dix (j-1) (O.rd o) G ?_;refine ρd ?_;refine dld (O.cell o G) ?_;refine ρd ?_;refine Vz (hC _ a2 (q.getD j z0) (q.getD (j-1) z0) (J.perm.mem_iff.1 (getD_mem' z0 q om)) (J.perm.mem_iff.1 (getD_mem' z0 q om))) ?_;rintro r w4 ⟨rfl,a1⟩;refine ⟨a1,?_⟩;have a9:=O.ext a1;have a5:=Zc a2 (Zg a1 _);refine ρd ?_;refine ρ ?_;refine ci (λh=>?_) (λh=>?_)
   .have U:=oT h;refine ρ ?_;refine drC 4 [0,1,2,3,4,5,6,7,10,11] [(0,8),(0,9),(0,12),(0,13),(0,14),(2,15),(2,16),(2,17)] kr ?_;have a3:Ext w4 w4.drew:=(Ext.refl w4).drew;have C:=a9.ext a3;obtain ⟨s1,s2,s3,⟨u,s4⟩,s5,s6⟩:=C.swap o Z G;refine ρp ?_;refine dix (j-1) (C.rd o) G ?_;refine ρd ?_;refine dld (C.cell o G) ?_;refine ρd ?_;refine dix j (C.rd o) Z ?_;refine ρd ?_;refine dld (C.cell o Z) ?_;refine ρd ?_;refine dix j (C.rd o) Z ?_;refine ρd ?_;refine Jo ?_;refine sto (C.cell o Z) s1 ?_ (hv:=C.one (o.symm ▸ G));refine ρ ?_;refine Qp ?_;refine Jo ?_;refine ix (j-1) s2 G ?_;refine ρ ?_;refine Qp ?_;refine Jo ?_;refine sto s4 s3 ?_ (hv:=C.one (o.symm ▸ Z));refine ρ ?_;exact Jl (j-1) (swp z0 q j (j-1)) sO ⟨hI.step hj om U,J.trans (Seg.swp om om om om om),s5,Zc a5 (Zc (Zg a3 _) s6)⟩ om
   .have U:=oF h;refine ρ ?_;exact Jl (i+1) q sB ⟨om,om,J,hI.done (preP ds) hj U,a9,a5⟩ om
  .have hj:j=a:=by have:=oF h;omega
   subst hj;refine ρd ?_;refine ρ ?_;exact Jl (i+1) q sB ⟨om,om,J,hI.done0,O,a2⟩ om
 .refine ρ ?_;have hbi:b<=i:=by have:=oF h;omega
  exact Gb ⟨q,aa,a7,a8.mono (Nat.le_refl _) hbi,a6⟩
end Go.Proofs.YtebcagekopgdhaaGreatDoor
namespace Go.Wk
variable {a b:Int}{k1 k2:IntKind}{x y:Operand}{t yt:TypeId}
section
variable {P:Program} {n:Nat} {al:AL} {w:World} {Q:Exit->Act->World->Prop} {ops:Array Oper} {rest:List Oper} {d ty:Nat} {pos:String} {aft:Array Edge}
theorem qn(m q:Nat)(k:WL P n ops Q rest ((d,.int .i64 ((m / q:Nat):Int))::al) w)(hx:ev al x=some (.int .i64 a):=by rfl)(hy:ev al y=some (.int .i64 b):=by rfl)(ha:a=(m:Int):=by first|rfl|omega)(hb:b=(q:Int):=by first|rfl|omega)(h0:0<q:=by omega)(hm:m<=9223372036854775807:=by omega)(hd:Nat.blt d n=true:=by rfl): WL P n ops Q (⟨some d,.binOp .quo t x y yt,ty,pos,aft,none⟩::rest) al w:=by
 subst ha;subst hb;refine wquo hx hy om hd ?_;have e:IntKind.i64.wrap ((m:Int).tdiv (q:Int))=((m / q:Nat):Int):=by
  rw [Int.tdiv_eq_ediv_of_nonneg om,<-Int.natCast_ediv];have:=Nat.div_le_self m q;generalize m / q=r at *
  exact Yh om
 rw [e];exact k
variable {drest:List (Nat×Oper)}
theorem dshl(k:WD P n ops Q drest ((d,.int k1 (k1.wrap (a*2^(min b.toNat k1.bits))))::al) w)(hx:ev al x=some (.int k1 a):=by rfl)(hy:ev al y=some (.int k2 b):=by rfl)(h0:0<=b:=by decide)(hd:Nat.blt d n=true:=by rfl):
  WD P n ops Q ((0,⟨some d,.binOp .shl t x y yt,ty,pos,aft,none⟩)::drest) al w :=
 dy (λw' _ e o=>by
  have u:¬ b<0:=om
  simp [execOp,o.ev hx,o.ev hy,eqGuard,binOp,Op.shift,u]) hd k
theorem dshr(k:WD P n ops Q drest ((d,.int k1 (a.fdiv (2^(min b.toNat k1.bits))))::al) w)(hx:ev al x=some (.int k1 a):=by rfl)(hy:ev al y=some (.int k2 b):=by rfl)(h0:0<=b:=by decide)(hd:Nat.blt d n=true:=by rfl):
  WD P n ops Q ((0,⟨some d,.binOp .shr t x y yt,ty,pos,aft,none⟩)::drest) al w :=
 dy (λw' _ e o=>by
  have u:¬ b<0:=om
  simp [execOp,o.ev hx,o.ev hy,eqGuard,binOp,Op.shift,u]) hd k
end
end Go.Wk
namespace Go.Proofs.YtebcagekopgdhaaGreatDoor
open Go.RowKit Pl Go.Wk
attribute [local irreducible] WC WL QX WD WDB WP
variable {cap first:Array Value}{fid:FuncId}{ai bi fsti hii loi:Int}{ds:List Bool}{M ps q q':List Pr}{a b base c fst g hi i j lo n t:Nat}{A:Option Addr}{x y:Pr}{w w' w0 w1:World}
structure DP(w0 w:World)(base:Nat)(A:Option Addr)(n c:Nat)(ps q:List Pr): Prop where
 d:Dat w base (.slice A n c) q
 p:q.Perm ps
 g:w0.grownBy w (Value.slice A n c).ownBlock
 l:q.length=n
section
variable {w0 w w':World} {base:Nat} {A:Option Addr} {n c:Nat} {ps q:List Pr}
theorem DP.start(hD:Dat w base (.slice A n c) ps)(hn:ps.length=n): DP w w base A n c ps ps:=⟨hD,List.Perm.refl _,Zg (Ext.refl w) _,hn⟩
theorem DP.ext(h:DP w0 w base A n c ps q)(hx:Ext w w'): DP w0 w' base A n c ps q:=⟨h.d.ext hx,h.p,Zc h.g (Zg hx _),h.l⟩
theorem DP.drew(h:DP w0 w base A n c ps q): DP w0 w.drew base A n c ps q:=h.ext (Ext.refl w).drew
theorem DP.rd(h:DP w0 w base A n c ps q): Rd w 1 A n (q.map (·.1)):=h.d.rd h.l
theorem DP.cell(h:DP w0 w base A n c ps q){i:Nat}(hi:i<n): w.cell? (adr A i)=some (q.getD i z0).1:=h.d.cell h.l hi
theorem DP.one(h:DP w0 w base A n c ps q){i:Nat}(hi:i<n): (q.getD i z0).1.oneCell'=true:=h.d.one (h.l.symm ▸ hi)
theorem DP.swap(h:DP w0 w base A n c ps q){i j:Nat}(hi:i<n)(hj:j<n):
  w.frozen? (adr A i)=false/\Rd (w.setCell (adr A i) (q.getD j z0).1) 1 A n ((q.set i (q.getD j z0)).map (·.1))/\(w.setCell (adr A i) (q.getD j z0).1).frozen? (adr A j)=false /\
  (∃ u,(w.setCell (adr A i) (q.getD j z0).1).cell? (adr A j)=some u)/\DP w0 ((w.setCell (adr A i) (q.getD j z0).1).setCell (adr A j) (q.getD i z0).1) base A n c ps (swp z0 q i j)/\w.grownBy ((w.setCell (adr A i) (q.getD j z0).1).setCell (adr A j) (q.getD i z0).1) (Value.slice A n c).ownBlock:=by
 obtain ⟨U,O,J,G,C,o⟩:=h.d.swap h.l hi hj;exact ⟨U,O,J,G,⟨C,(Jmx z0 q (h.l.symm ▸ hi) (h.l.symm ▸ hj)).trans h.p,Zc h.g o,by rw [Qyz];exact h.l⟩,o⟩
theorem DP.box(h:DP w0 w base A n c ps q){cs:List Value}(hB:Blk w g t cs)(hne:Nat.beq 37 t=false)(hg:w0.heap.size<=g)(u:Value): DP w0 (w.setCell ⟨g,0,none⟩ u) base A n c ps q:=by
 have C:w.grownBy (w.setCell ⟨g,0,none⟩ u) (some g):=⟨rfl,rfl,rfl,by simp [World.setCell],λk o hn=>Below.heap_setCell w ⟨g,0,none⟩ u k (λe=>hn (by rw [e]))⟩;refine ⟨⟨h.d.1.kept C (Or.inr ?_),h.d.2⟩,h.p,?_,h.l⟩
 .exact λe=>hB.ne_own h.d.1 hne e.symm
 .refine ⟨h.g.os,h.g.tape,h.g.output,?_,λk o hn=>?_⟩
  .simp [World.setCell];exact h.g.size
  .exact (Below.heap_setCell w ⟨g,0,none⟩ u k (by simp;omega)).trans (h.g.block k o hn)
end
def CF(w:World)(row:Option Nat)(fid:FuncId)(first cap:Array Value)(M:List Pr)(ds:List Bool): Prop :=
 ∀ w',w.grownBy w' row->∀ p q,p∈M->q∈M->Ret Tryz.prog fid (first.toList++[p.1,q.1]++cap.toList) w' λr w''=>r=.int .i64 (fP ds p q)/\Ext w' w''
theorem CF.call(hC:CF w0 (Value.slice A n c).ownBlock fid first cap ps ds)(h:DP w0 w base A n c ps q)(hi:i<n)(hj:j<n):
  Ret Tryz.prog fid (first.toList++[(q.getD i z0).1,(q.getD j z0).1]++cap.toList) w λr w''=>∃ b:Int,r=.int .i64 b/\Ext w w'' :=
 (hC w h.g _ _ (h.p.mem_iff.1 (getD_mem' z0 q (h.l.symm ▸ hi))) (h.p.mem_iff.1 (getD_mem' z0 q (h.l.symm ▸ hj)))).mono λr w'' ⟨u,o⟩=>⟨_,u,o⟩
theorem CF.callV(hC:CF w0 (Value.slice A n c).ownBlock fid first cap ps ds)(h:DP w0 w base A n c ps q)(hi:i<n)(hj:j<n):
  Ret Tryz.prog fid (first.toList++[(q.getD i z0).1,(q.getD j z0).1]++cap.toList) w λr w''=>r=.int .i64 (fP ds (q.getD i z0) (q.getD j z0))/\Ext w w'' :=
 hC w h.g _ _ (h.p.mem_iff.1 (getD_mem' z0 q (h.l.symm ▸ hi))) (h.p.mem_iff.1 (getD_mem' z0 q (h.l.symm ▸ hj)))
instance instPr: Inhabited Pr:=⟨z0⟩
def ltP(ds:List Bool)(p q:Pr): Bool:=decide (fP ds p q<0)
theorem az(q:List Pr)(i:Nat): q.toArray[i]! = q.getD i z0:=by
 rw [getElem!_def];simp only [List.getElem?_toArray,List.getD];cases q[i]?<;>rfl
theorem swz(q:List Pr)(i j:Nat): Go.Sort.swp q.toArray i j=(swp z0 q i j).toArray:=by
 unfold Go.Sort.swp swp;rw [az,az,List.setIfInBounds_toArray,List.setIfInBounds_toArray]
theorem Jdx(h:ltP ds x y=true): Jw x.2 y.2 ds<0:=oT (p:=fP ds x y<0) h
theorem Jxf(h:ltP ds x y=false): Jw y.2 x.2 ds<=0:=by
 have o:¬ Jw x.2 y.2 ds<0:=oF (p:=fP ds x y<0) h;have:=Jwb x.2 y.2 ds;omega
theorem ltP_f'(h:Jw y.2 x.2 ds<=0): ltP ds x y=false:=dF (p:=fP ds x y<0) (by
 have:=Jwb x.2 y.2 ds;show ¬ Jw x.2 y.2 ds<0;omega)
theorem swoP(ds:List Bool): Go.Sort.SWO (ltP ds) :=
 ⟨λx=>ltP_f' (by rw [Yw];exact Int.le_refl _),λx y z u o=>decide_eq_true (p:=fP ds x z<0) ((Gd ds).lt_le (Jdx u) (Int.le_of_lt (Jdx o))),
  λx y z u o=>ltP_f' (Jyw z.2 y.2 x.2 ds (Jxf o) (Jxf u))⟩
theorem DP.seg(h:DP w0 w base A n c ps q)(k:Go.Sort.PermIn a b ps.toArray q.toArray): Seg z0 a b ps q :=
 ⟨h.p,λi hi=>by have:=k.2.1 i (.inl hi);rwa [az,az]at this,λi hi=>by have:=k.2.1 i (.inr hi);rwa [az,az]at this⟩
theorem Jnj(h:Go.Sort.SortedIn (ltP ds) a b q.toArray): SOn z0 (fP ds) q a b:=λi j hi o u=>by
 have:=h i j hi o u;rw [az,az]at this;exact Jxf this
theorem Qbs(ds:List Bool)(hi fst root:Nat)(q:List Pr): Go.Sort.siftDown (ltP ds) hi fst root q.toArray=if 2*root+1 ≥ hi then q.toArray else
  if ltP ds (q.getD (fst+root) z0) (q.getD (fst+(if (decide (2*root+2<hi) && ltP ds (q.getD (fst+(2*root+1)) z0) (q.getD (fst+(2*root+1)+1) z0))=true then 2*root+2 else 2*root+1)) z0)=true then
   Go.Sort.siftDown (ltP ds) hi fst (if (decide (2*root+2<hi) && ltP ds (q.getD (fst+(2*root+1)) z0) (q.getD (fst+(2*root+1)+1) z0))=true then 2*root+2 else 2*root+1)
    (swp z0 q (fst+root) (fst+(if (decide (2*root+2<hi) && ltP ds (q.getD (fst+(2*root+1)) z0) (q.getD (fst+(2*root+1)+1) z0))=true then 2*root+2 else 2*root+1))).toArray
  else q.toArray:=by
 rw [Go.Sort.siftDown];by_cases h1:2*root+1 ≥ hi
 .rw [dif_pos h1,if_pos h1]
 rw [dif_neg h1,if_neg h1];simp only [az,swz];by_cases h2:(decide (2*root+2<hi) && ltP ds (q.getD (fst+(2*root+1)) z0) (q.getD (fst+(2*root+1)+1) z0))=true
 .have o:2*root+2<hi:=by simp at h2;exact h2.1
  rw [if_pos (show (decide (2*root+1+1<hi) && ltP ds (q.getD (fst+(2*root+1)) z0) (q.getD (fst+(2*root+1)+1) z0))=true from h2),if_pos h2,dif_pos o];cases ltP ds (q.getD (fst+root) z0) (q.getD (fst+(2*root+2)) z0)<;>simp
 .rw [if_neg (show ¬ (decide (2*root+1+1<hi) && ltP ds (q.getD (fst+(2*root+1)) z0) (q.getD (fst+(2*root+1)+1) z0))=true from h2),if_neg h2];cases ltP ds (q.getD (fst+root) z0) (q.getD (fst+(2*root+1)) z0)<;>simp
theorem CF.pack{row:Option Nat}(h:CF w row fid first cap M ds): CmpF w row (.func (.func fid) first cap) M ds:=⟨fid,first,cap,rfl,h⟩
theorem CF.step(hC:CF w (Value.slice A n c).ownBlock fid first cap ps ds)(h:DP w w1 base A n c ps q): CF w1 (Value.slice A n c).ownBlock fid first cap q ds :=
 λw' o a b C u=>hC w' (Zc h.g o) a b (h.p.mem_iff.1 C) (h.p.mem_iff.1 u)
theorem DP.after(h:DP w0 w base A n c ps q)(k:DP w w' base A n c q q'): DP w0 w' base A n c ps q':=⟨k.d,k.p.trans h.p,Zc h.g k.g,k.l⟩
theorem Qct(hD:Dat w base (.slice A n c) ps)(hn:ps.length=n)(hmx:n<=140737488355328)(hC:CF w (Value.slice A n c).ownBlock fid first cap ps ds)(hai:ai=(a:Int))(hbi:bi=(b:Int))(hab:a<b)(hb:b<=n):
  Ret Tryz.prog 179 [.slice A n c,.int .i64 ai,.int .i64 bi,.func (.func fid) first cap] w λv w'=>∃ ps',DP w w' base A n c ps ps'/\Seg z0 a b ps ps':=by
 subst hai;subst hbi;refine Jz Tryz.func179 Tryz.ntmps179 rfl kr rfl ?_;refine ρ ?_;refine Xt (fun (i j:Nat) (q:List Pr)=>[(0,.slice A n c),(8,.int .i64 (i:Int)),(9,.int .i64 ((j:Int)-1))])
  (λi j q w'=>DP w w' base A n c ps q/\j<=b/\a<=i/\i<=n/\Seg z0 a b ps q) (λi j _=>n+j-i) a b ps sO ⟨DP.start hD hn,Nat.le_refl _,Nat.le_refl _,om,Seg.refl _ _ _⟩ ?_
 rintro i j q w1 ⟨H,hj,hai,hi,J⟩;refine ρ ?_;refine ci (λh=>?_) (λh=>?_)
 .have a1:i+1<j:=by have:=oT h;omega
  have C:i<n:=om
  have G:j-1<n:=om
  refine ρ ?_;refine drC 4 [0,1,2,3,4,5,8,9] [(0,6),(0,7),(0,10),(0,11),(0,12),(2,13),(2,14),(2,15)] kr ?_;have o:=H.drew;obtain ⟨s1,s2,Z,⟨u,U⟩,O,s6⟩:=o.swap C G;refine ρp ?_;refine dix (j-1) o.rd G ?_;refine ρd ?_;refine dld (o.cell G) ?_;refine ρd ?_;refine dix (i) o.rd C ?_;refine ρd ?_;refine dld (o.cell C) ?_;refine ρd ?_;refine dix (i) o.rd C ?_;refine ρd ?_;refine Jo ?_;refine sto (o.cell C) s1 ?_ (hv:=o.one G);refine ρ ?_;refine Qp ?_;refine Jo ?_;refine ix (j-1) s2 G ?_;refine ρ ?_;refine Qp ?_;refine Jo ?_;refine sto U Z ?_ (hv:=o.one C);refine ρ ?_;exact Xj (i+1) (j-1) (swp z0 q i (j-1)) sO ⟨O,om,om,om,J.trans (Seg.swp om om om om (by rw [H.l];exact hb))⟩ om
 .refine ρ ?_;exact Gb ⟨q,H,J⟩
theorem Jnp(hD:Dat w base (.slice A n c) ps)(hn:ps.length=n)(hmx:n<=140737488355328)(hC:CF w (Value.slice A n c).ownBlock fid first cap ps ds)(hlo:loi=(lo:Int))(hhi:hii=(hi:Int))(hfst:fsti=(fst:Int))(hb:fst+hi<=n)(hl:lo<=n):
  Ret Tryz.prog 197 [.slice A n c,.int .i64 loi,.int .i64 hii,.int .i64 fsti,.func (.func fid) first cap] w λv w'=>∃ ps',DP w w' base A n c ps ps'/\Go.Sort.siftDown (ltP ds) hi fst lo ps.toArray=ps'.toArray:=by
 subst hlo;subst hhi;subst hfst;refine Jz Tryz.func197 Tryz.ntmps197 rfl kr rfl ?_;refine ρ ?_;refine Ja (fun (o:Nat) (q:List Pr)=>[(0,.slice A n c),(2,.int .i64 (hi:Int)),(3,.int .i64 (fst:Int)),(4,.func (.func fid) first cap),(10,.int .i64 (o:Int))])
  (λo q w'=>DP w w' base A n c ps q/\o<=n/\Go.Sort.siftDown (ltP ds) hi fst lo ps.toArray=Go.Sort.siftDown (ltP ds) hi fst o q.toArray) (λo _=>n-o) lo ps sB ⟨DP.start hD hn,hl,rfl⟩ ?_
 rintro o q w1 ⟨H,hr,O⟩;rw [Qbs ds hi fst o q]at O;refine ρ ?_;refine ci (λh=>?_) (λh=>?_)
 .rw [if_pos (show 2*o+1 ≥ hi by have:=oT h;omega)]at O;refine ρ ?_;exact Gb ⟨q,H,O⟩
 have aa:2*o+1<hi:=by have:=oF h;omega
 rw [if_neg (show ¬ 2*o+1 ≥ hi by omega)]at O;refine ρ ?_;refine Xa (fun (b:Bool)=>[(0,.slice A n c),(2,.int .i64 (hi:Int)),(3,.int .i64 (fst:Int)),(4,.func (.func fid) first cap),(10,.int .i64 (o:Int)),(11,.int .i64 (2*(o:Int)+1)),(40,.bool b)]) (λb w'=>DP w w' base A n c ps q/\(b=true->2*o+2<hi)/\b=(decide (2*o+2<hi) && ltP ds (q.getD (fst+(2*o+1)) z0) (q.getD (fst+(2*o+1)+1) z0))) ?_ ?_
 .skip
  refine dr [(0,0),(0,1),(0,2),(0,3),(0,4),(0,5),(0,6),(0,7),(0,8),(0,9),(0,10),(0,11),(0,12),(0,13),(0,14),(0,15),(0,16),(0,17),(0,18),(1,19),(0,20),(0,21)] kr ?_;have Hd:=H.drew;refine ρd ?_;refine dki 23 (λh=>?_) (λh=>?_)
  .have a3:2*o+2<hi:=by have:=oT h;omega
   have li:fst+(2*o+1)<n:=om
   have lj:fst+(2*o+1)+1<n:=om
   refine ρd ?_;refine dix (fst+(2*o+1)) Hd.rd li ?_;refine ρd ?_;refine dld (Hd.cell li) ?_;refine ρd ?_;refine dix (fst+(2*o+1)+1) Hd.rd lj ?_;refine ρd ?_;refine dld (Hd.cell lj) ?_;refine ρd ?_;refine Vz (hC.callV Hd li lj) ?_;rintro r a8 ⟨rfl,a2⟩;refine ⟨a2,?_⟩;have H2:=Hd.ext a2;refine ρd ?_;refine ρ ?_;exact Jb _ sB ⟨H2,λ_=>a3,by rw [decide_eq_true a3];rfl⟩
  .refine ρd ?_;refine ρ ?_;exact Jb false sB ⟨Hd,(λe=>by cases e),by rw [decide_eq_false (show ¬ 2*o+2<hi by have:=oF h;omega)];rfl⟩
 rintro b w2 ⟨H2,a6,a5⟩;rw [<-a5]at O;refine Xa (fun (C:Nat)=>[(0,.slice A n c),(2,.int .i64 (hi:Int)),(3,.int .i64 (fst:Int)),(4,.func (.func fid) first cap),(10,.int .i64 (o:Int)),(11,.int .i64 (C:Int))]) (λC w'=>DP w w' base A n c ps q/\o<C/\C<hi/\C=if b=true then 2*o+2 else 2*o+1) ?_ ?_
 .refine ci (λh=>?_) (λh=>?_)
  .have:=a6 h;refine ρ ?_;exact Jb (2*o+2) sO ⟨H2,om,om,by rw [if_pos h]⟩
  .refine ρ ?_;exact Jb (2*o+1) sO ⟨H2,om,om,by rw [if_neg (by rw [h];decide)]⟩
 rintro C w3 ⟨H3,a3,a9,a4⟩;rw [<-a4]at O;have U:fst+o<n:=om
 have Z:fst+C<n:=om
 refine ρ ?_;refine dr [(0,0),(0,1),(0,2),(0,3),(0,4),(0,5),(0,6),(0,7),(0,8),(0,9),(0,10),(0,11),(0,12),(1,13),(0,14),(0,15)] kr ?_;have J:=H3.drew;refine ρd ?_;refine ρd ?_;refine dix (fst+o) J.rd U ?_;refine ρd ?_;refine dld (J.cell U) ?_;refine ρd ?_;refine dix (fst+C) J.rd Z ?_;refine ρd ?_;refine dld (J.cell Z) ?_;refine ρd ?_;refine Vz (hC.callV J U Z) ?_;rintro r a7 ⟨rfl,a1⟩;refine ⟨a1,?_⟩;have H4:=J.ext a1;refine ρd ?_;refine ρ ?_;refine ci (λh=>?_) (λh=>?_)
 .have hf:ltP ds (q.getD (fst+o) z0) (q.getD (fst+C) z0)=false:=by simpa [ltP] using h
  rw [if_neg (by rw [hf];decide)]at O;refine ρ ?_;exact Jkr ⟨q,H4,O⟩
 have ht:ltP ds (q.getD (fst+o) z0) (q.getD (fst+C) z0)=true:=by simpa [ltP] using h
 rw [if_pos ht]at O;refine ρ ?_;refine drC 4 [0,1,2,3,4,5,6,7,8,9,10,11,14,15,16,17] [(0,12),(0,13),(0,18),(0,19),(0,20),(2,21),(2,22),(2,23)] kr ?_;have G:=H4.drew;obtain ⟨s1,s2,s3,⟨u,s4⟩,s5,s6⟩:=G.swap U Z;refine ρp ?_;refine dix (fst+C) G.rd Z ?_;refine ρd ?_;refine dld (G.cell Z) ?_;refine ρd ?_;refine dix (fst+o) G.rd U ?_;refine ρd ?_;refine dld (G.cell U) ?_;refine ρd ?_;refine dix (fst+o) G.rd U ?_;refine ρd ?_;refine Jo ?_;refine sto (G.cell U) s1 ?_ (hv:=G.one Z);refine ρ ?_;refine Qp ?_;refine Jo ?_;refine ix (fst+C) s2 Z ?_;refine ρ ?_;refine Qp ?_;refine Jo ?_;refine sto s4 s3 ?_ (hv:=G.one U);refine ρ ?_;exact Jl C (swp z0 q (fst+o) (fst+C)) sB ⟨s5,om,O⟩ om
theorem Qmv(hD:Dat w base (.slice A n c) ps)(hn:ps.length=n)(hmx:n<=140737488355328)(hC:CF w (Value.slice A n c).ownBlock fid first cap ps ds)(hai:ai=(a:Int))(hbi:bi=(b:Int))(hab:a<b)(hb:b<=n):
  Ret Tryz.prog 176 [.slice A n c,.int .i64 ai,.int .i64 bi,.func (.func fid) first cap] w λv w'=>∃ ps',DP w w' base A n c ps ps'/\Go.Sort.heapSort (ltP ds) ps.toArray a b=ps'.toArray:=by
 subst hai;subst hbi;refine Jz Tryz.func176 Tryz.ntmps176 rfl kr rfl ?_;refine ρ ?_;refine qn (b-a-1) 2 ?_;refine ρ ?_;refine Ja (fun (i:Nat) (q:List Pr)=>[(0,.slice A n c),(3,.func (.func fid) first cap),(8,.int .i64 (a:Int)),(9,.int .i64 0),(10,.int .i64 ((b:Int)-(a:Int))),(11,.int .i64 ((i:Int)-1))])
  (λi q w'=>DP w w' base A n c ps q/\i<=n/\Go.Sort.heapSort (ltP ds) ps.toArray a b=Go.Sort.heapPop (ltP ds) a (b-a) (Go.Sort.heapBuild (ltP ds) (b-a) a i q.toArray)) (λi _=>i) ((b-a-1) / 2+1) ps sO ⟨DP.start hD hn,om,rfl⟩ ?_
 rintro i q w1 ⟨H,hi,C⟩;refine ρ ?_;refine ci (λh=>?_) (λh=>?_)
 .have o:0<i:=by have:=oT h;omega
  refine ρ ?_;refine cl (Jnp (lo:=i-1) (hi:=b-a) (fst:=a) (loi:=(i:Int)-1) (hii:=(b:Int)-(a:Int)) H.d H.l hmx (hC.step H) om om rfl om om) ?_;rintro v w2 ⟨q2,H2,J⟩;have e1:i=(i-1)+1:=om
  rw [e1,Go.Sort.heapBuild,J]at C;refine ρ ?_;exact Jl (i-1) q2 sO ⟨H.after H2,om,C⟩ om
 have o:i=0:=by have:=oF h;omega
 rw [o,Go.Sort.heapBuild]at C;refine ρ ?_;refine Ja (fun (i:Nat) (q:List Pr)=>[(0,.slice A n c),(3,.func (.func fid) first cap),(8,.int .i64 (a:Int)),(9,.int .i64 0),(12,.int .i64 ((i:Int)-1))])
  (λi q w'=>DP w w' base A n c ps q/\i<=b-a/\Go.Sort.heapSort (ltP ds) ps.toArray a b=Go.Sort.heapPop (ltP ds) a i q.toArray) (λi _=>i) (b-a) q sO ⟨H,om,C⟩ ?_
 clear C;rintro i q w1 ⟨H,hi,C⟩;refine ρ ?_;refine ci (λh=>?_) (λh=>?_)
 .have o:0<i:=by have:=oT h;omega
  have O:a<n:=om
  have U:a+(i-1)<n:=om
  refine ρ ?_;refine drC 4 [0,1,2,3,4,5,6,7,8,9,12,13] [(0,10),(0,11),(0,14),(0,15),(0,16),(2,17),(2,18),(2,19)] kr ?_;have G:=H.drew;obtain ⟨s1,s2,s3,⟨u,s4⟩,Z,s6⟩:=G.swap O U;refine ρp ?_;refine dix (a+(i-1)) G.rd U ?_;refine ρd ?_;refine dld (G.cell U) ?_;refine ρd ?_;refine dix (a) G.rd O ?_;refine ρd ?_;refine dld (G.cell O) ?_;refine ρd ?_;refine dix (a) G.rd O ?_;refine ρd ?_;refine Jo ?_;refine sto (G.cell O) s1 ?_ (hv:=G.one U);refine ρ ?_;refine Qp ?_;refine Jo ?_;refine ix (a+(i-1)) s2 U ?_;refine ρ ?_;refine Qp ?_;refine Jo ?_;refine sto s4 s3 ?_ (hv:=G.one O);refine ρ ?_;refine cl (Jnp (lo:=0) (hi:=i-1) (fst:=a) (loi:=0) (hii:=(i:Int)-1) Z.d Z.l hmx (hC.step Z) rfl om rfl om om) ?_;rintro v w2 ⟨q2,H2,J⟩;have e1:i=(i-1)+1:=om
  rw [e1,Go.Sort.heapPop,swz,J]at C;refine ρ ?_;exact Jl (i-1) q2 sO ⟨Z.after H2,om,C⟩ om
 have o:i=0:=by have:=oF h;omega
 rw [o,Go.Sort.heapPop]at C;refine ρ ?_;exact Gb ⟨q,H,C⟩
open Go.RowKit Pl Go.Wk
variable {cap first:Array Value}{fid:FuncId}{ai bi s:Int}{ds:List Bool}{ps q:List Pr}{a b base c e g n:Nat}{A:Option Addr}{w w0:World}
theorem zInt: Qu Tryz.prog 3=some (.int .i64 0):=kr
theorem zXor: Qu Tryz.prog 270=some (.int .u64 0):=kr
theorem Jdm(H:DP w0 w base A n c ps q)(hmx:n<=140737488355328)(hC:CF w0 (Value.slice A n c).ownBlock fid first cap ps ds)(hB:Blk w g 3 [.int .i64 s])(hg:w0.heap.size<=g)(ha:a<n)(hb:b<n):
  Ret Tryz.prog 211 [.slice A n c,.int .i64 (a:Int),.int .i64 (b:Int),.pointer (some ⟨g,0,none⟩),.func (.func fid) first cap] w λr w'=>∃ x y:Nat,∃ s':Int,r=.tuple #[.int .i64 (x:Int),.int .i64 (y:Int)]/\((x=a/\y=b)∨(x=b/\y=a))/\DP w0 w' base A n c ps q/\Blk w' g 3 [.int .i64 s']:=by
 refine Jz Tryz.func211 Tryz.ntmps211 rfl kr rfl ?_;refine ρ ?_;refine dr [(0,0),(0,1),(0,2),(0,3),(0,4),(0,5),(0,6),(0,7),(0,8),(1,9),(0,10)] kr ?_;have C:=H.drew;refine ρd ?_;refine ρd ?_;refine dix (b) C.rd hb ?_;refine ρd ?_;refine dld (C.cell hb) ?_;refine ρd ?_;refine dix (a) C.rd ha ?_;refine ρd ?_;refine dld (C.cell ha) ?_;refine ρd ?_;refine Vz (hC.call C hb ha) ?_;rintro r J ⟨O,rfl,u⟩;refine ⟨u,?_⟩;have G:=C.ext u;refine ρd ?_;refine ρ ?_;have o:=(hB.ext (Ext.refl w).drew).ext u;refine ci (λh=>?_) (λh=>?_)
 .refine ρ ?_;refine ld (o.cell 0) ?_;refine ρ ?_;refine sto (o.cell 0) (o.frozen 0) ?_;refine ρ ?_;exact Yk ⟨b,a,_,rfl,.inr ⟨rfl,rfl⟩,G.box o rfl hg _,o.set 0 _⟩
 .refine ρ ?_;exact Yk ⟨a,b,_,rfl,.inl ⟨rfl,rfl⟩,G,o⟩
theorem Jsq(H:DP w0 w base A n c ps q)(hmx:n<=140737488355328)(hC:CF w0 (Value.slice A n c).ownBlock fid first cap ps ds)(hB:Blk w g 3 [.int .i64 s])(hg:w0.heap.size<=g)(ha:a<n)(hb:b<n)(he:e<n):
  Ret Tryz.prog 201 [.slice A n c,.int .i64 (a:Int),.int .i64 (b:Int),.int .i64 (e:Int),.pointer (some ⟨g,0,none⟩),.func (.func fid) first cap] w λr w'=>∃ m:Nat,∃ s':Int,r=.int .i64 (m:Int)/\(m=a∨m=b∨m=e)/\DP w0 w' base A n c ps q/\Blk w' g 3 [.int .i64 s']:=by
 refine Jz Tryz.func201 Tryz.ntmps201 rfl kr rfl ?_;refine ρ ?_;refine cl (Jdm H hmx hC hB hg ha hb) ?_;rintro r w1 ⟨U,O,s1,rfl,e1,H1,C⟩;refine ρ ?_;refine cl (Jdm (a:=O) (b:=e) H1 hmx hC C hg om he) ?_;rintro r w2 ⟨J,e2,s2,rfl,e3,H2,u⟩;refine ρ ?_;refine cl (Jdm (a:=U) (b:=J) H2 hmx hC u hg om om) ?_;rintro r w3 ⟨a3,G,s3,rfl,e4,Z,o⟩;refine ρ ?_;exact Jj ⟨G,_,rfl,om,Z,o⟩
theorem Jds(H:DP w0 w base A n c ps q)(hmx:n<=140737488355328)(hC:CF w0 (Value.slice A n c).ownBlock fid first cap ps ds)(hB:Blk w g 3 [.int .i64 s])(hg:w0.heap.size<=g)(hai:ai=(a:Int))(ha:0<a)(hb:a+1<n):
  Ret Tryz.prog 200 [.slice A n c,.int .i64 ai,.pointer (some ⟨g,0,none⟩),.func (.func fid) first cap] w λr w'=>∃ m:Nat,∃ s':Int,r=.int .i64 (m:Int)/\(m=a∨m+1=a∨m=a+1)/\DP w0 w' base A n c ps q/\Blk w' g 3 [.int .i64 s']:=by
 subst hai;refine Jz Tryz.func200 Tryz.ntmps200 rfl kr rfl ?_;refine ρ ?_;have C:a-1<n:=om
 have u:((a:Int)-1)=((a-1:Nat):Int):=om
 have G:((a:Int)+1)=((a+1:Nat):Int):=om
 rw [u,G];refine cl (Jsq H hmx hC hB hg C (by omega:a<n) hb) ?_;rintro r O ⟨m,U,rfl,u,J,o⟩;refine ρ ?_;exact Jj ⟨m,_,rfl,om,J,o⟩
theorem Qrw(hD:Dat w base (.slice A n c) ps)(hn:ps.length=n)(hmx:n<=140737488355328)(hC:CF w (Value.slice A n c).ownBlock fid first cap ps ds)(hai:ai=(a:Int))(hbi:bi=(b:Int))(hab:a+12<b)(hb:b<=n):
  Ret Tryz.prog 178 [.slice A n c,.int .i64 ai,.int .i64 bi,.func (.func fid) first cap] w λr w'=>∃ m:Nat,∃ z:Int,r=.tuple #[.int .i64 (m:Int),.int .i64 z]/\a<=m/\m<b/\DP w w' base A n c ps ps:=by
 subst hai;subst hbi;refine Jz Tryz.func178 Tryz.ntmps178 rfl kr rfl ?_;refine ρ ?_;refine alc zInt ?_;intro w1 g u o hB;have H1:=(DP.start hD hn).ext u;refine ρ ?_;refine qn (b-a) 4 ?_;refine ρ ?_;refine qn (b-a) 4 ?_;refine ρ ?_;refine qn (b-a) 4 ?_;refine ρ ?_;refine ct ?_ ?_
 .exact decide_eq_true om
 have hq:(b-a) / 4<=(b-a)/\3<=(b-a) / 4/\4*((b-a) / 4)<=b-a:=om
 generalize (b-a) / 4=l4 at hq ⊢
 refine ρ ?_;refine Jlv (fun (i j k:Nat)=>[(0,.slice A n c),(3,.func (.func fid) first cap),(11,.pointer (some ⟨g,0,none⟩)),(12,.int .i64 (i:Int)),(13,.int .i64 (j:Int)),(14,.int .i64 (k:Int))])
  (λi j k w'=>DP w w' base A n c ps ps/\(∃ s:Int,Blk w' g 3 [.int .i64 s])/\a<=i/\i<b/\a<=j/\j<b/\a<=k/\k<b) ?_ ?_
 .refine ci (λh=>?_) (λh=>?_)
  .have a1:=oT h;refine ρ ?_;refine cl (Jds (a:=a+l4) (ai:=(a:Int)+(l4:Int)*1) H1 hmx hC hB o om om om) ?_;rintro r w2 ⟨i,s2,rfl,e2,H2,U⟩;refine ρ ?_;refine cl (Jds (a:=a+l4*2) (ai:=(a:Int)+(l4:Int)*2) H2 hmx hC U o om om om) ?_;rintro r w3 ⟨j,s3,rfl,e3,H3,O⟩;refine ρ ?_;refine cl (Jds (a:=a+l4*3) (ai:=(a:Int)+(l4:Int)*3) H3 hmx hC O o om om om) ?_;rintro r w4 ⟨k,s4,rfl,e4,H4,J⟩;refine ρ ?_;exact Jvp i j k sB ⟨H4,⟨_,J⟩,om,om,om,om,om,om⟩
  .refine ρ ?_;exact Jvp (a+l4) (a+l4*2) (a+l4*3) sO ⟨H1,⟨_,hB⟩,om,om,om,om,om,om⟩
 rintro i j k w5 ⟨H5,⟨s5,G⟩,h1,h2,h3,h4,h5,h6⟩;refine ρ ?_;refine cl (Jsq H5 hmx hC G o (by omega:i<n) (by omega:j<n) (by omega:k<n)) ?_;rintro r w6 ⟨m,s6,rfl,e6,Z,C⟩;refine ρ ?_;refine ld (C.cell 0) ?_;refine ρ ?_;refine ci (λh=>?_) (λh=>?_)
 .refine ρ ?_;exact Yk ⟨m,_,rfl,om,om,Z⟩
 refine ρ ?_;refine ci (λh=>?_) (λh=>?_)
 .refine ρ ?_;exact Yk ⟨m,_,rfl,om,om,Z⟩
 refine ρ ?_;exact Yk ⟨m,_,rfl,om,om,Z⟩
open Go.RowKit Pl Go.Wk
variable {ai bi mi r:Int}{ps q:List Pr}{a b base c g m n:Nat}{A:Option Addr}{w w0:World}
theorem Qzj(op:BinOp)(x y:Int): 0<=bits op .u64 x y/\bits op .u64 x y<=18446744073709551615:=by
 unfold bits;rw [IntKind.wrap_u64];omega
theorem Qwl(H:DP w0 w base A n c ps q)(hB:Blk w g 270 [.int .u64 r])(hg:w0.heap.size<=g):
  Ret Tryz.prog 199 [.pointer (some ⟨g,0,none⟩)] w λv w'=>∃ r',v=.int .u64 r'/\0<=r'/\r'<=18446744073709551615/\DP w0 w' base A n c ps q/\Blk w' g 270 [.int .u64 r']:=by
 refine Jz Tryz.func199 Tryz.ntmps199 rfl kr rfl ?_;refine ρ ?_;refine dr [(0,0),(0,1),(0,2),(0,3),(0,4),(0,5),(0,6),(0,7),(0,8),(2,9)] kr ?_;have b0:=hB.ext (Ext.refl _).drew;have h0:=H.drew;refine ρd ?_;refine dld (b0.cell 0) ?_;refine ρd ?_;refine dld (b0.cell 0) ?_;refine ρd ?_;refine dshl ?_;refine ρd ?_;obtain ⟨O,a2⟩:∃ z,z=bits .xor .u64 r (IntKind.u64.wrap (r*2^min (13:Int).toNat IntKind.u64.bits)):=⟨_,rfl⟩;refine dkv 10 (u:=.int .u64 O) (congrArg (Value.int .u64) a2.symm) ?_;refine Jo ?_;refine sto (b0.cell 0) (b0.frozen 0) ?_;refine ρ ?_;have H1:=h0.box b0 rfl hg (.int .u64 O);have a4:=b0.set 0 (.int .u64 O);refine dr [(0,0),(0,1),(0,2),(0,3),(0,4),(0,5),(0,6),(0,7),(0,8),(2,9)] kr ?_;have G:=a4.ext (Ext.refl _).drew;have h1:=H1.drew;refine ρd ?_;refine dld (G.cell 0) ?_;refine ρd ?_;refine dld (G.cell 0) ?_;refine ρd ?_;refine dshr ?_
 refine ρd ?_;obtain ⟨J,a1⟩:∃ z,z=bits .xor .u64 O (O.fdiv (2^min (7:Int).toNat IntKind.u64.bits)):=⟨_,rfl⟩;refine dkv 19 (u:=.int .u64 J) (congrArg (Value.int .u64) a1.symm) ?_;refine Jo ?_;refine sto (G.cell 0) (G.frozen 0) ?_;refine ρ ?_;have H2:=h1.box G rfl hg (.int .u64 J);have a3:=G.set 0 (.int .u64 J);refine dr [(0,0),(0,1),(0,2),(0,3),(0,4),(0,5),(0,6),(0,7),(0,8),(2,9)] kr ?_;have C:=a3.ext (Ext.refl _).drew;have h2:=H2.drew;refine ρd ?_;refine dld (C.cell 0) ?_;refine ρd ?_;refine dld (C.cell 0) ?_;refine ρd ?_;refine dshl ?_;refine ρd ?_;obtain ⟨Z,o⟩:∃ z,z=bits .xor .u64 J (IntKind.u64.wrap (J*2^min (17:Int).toNat IntKind.u64.bits)):=⟨_,rfl⟩;refine dkv 28 (u:=.int .u64 Z) (congrArg (Value.int .u64) o.symm) ?_;refine Jo ?_;refine sto (C.cell 0) (C.frozen 0) ?_;refine ρ ?_;have H3:=h2.box C rfl hg (.int .u64 Z);have U:=C.set 0 (.int .u64 Z);refine ld (U.cell 0) ?_
 refine ρ ?_;exact Jj ⟨Z,rfl,by rw [o];exact (Qzj _ _ _).1,by rw [o];exact (Qzj _ _ _).2,H3,U⟩
theorem Qgs(hmi:mi=(m:Int))(h0:0<m)(hm:m<=140737488355328)(w:World): Ret Tryz.prog 198 [.int .i64 mi] w λv w'=>∃ p:Nat,v=.int .u64 (p:Int)/\0<p/\p<=2*m/\w'=w:=by
 subst hmi;refine Jz Tryz.func198 Tryz.ntmps198 rfl kr rfl ?_;refine ρ ?_;refine kv 4 (u:=.int .u64 (m:Int)) (congrArg (Value.int .u64) (Uv om)) ?_;refine cl (Qzk m om w) ?_;rintro v w' ⟨rfl,rfl⟩;refine ρ ?_;refine wshl rfl rfl om rfl ?_;obtain ⟨O,J⟩:=Jtd (x:=m) om;have G:Ju m<=48:=Jxh om;have C:2^Ju m=2*2^(Ju m-1):=by rw [<-Nat.pow_succ'];congr 1;omega
 have e:IntKind.u64.wrap (1*2^min ((Ju m:Nat):Int).toNat IntKind.u64.bits)=((2^Ju m:Nat):Int):=by
  have o:min ((Ju m:Nat):Int).toNat IntKind.u64.bits=Ju m:=by simp only [Int.toNat_natCast];exact Nat.min_eq_left (by show Ju m<=64;omega)
  rw [o,Int.one_mul];have:((2^Ju m:Nat):Int)=(2:Int)^Ju m:=by push_cast;rfl
  rw [<-this];exact Uv om
 refine kv 6 (congrArg (Value.int .u64) e) ?_;refine ρ ?_;exact Jj ⟨2^Ju m,rfl,Nat.pow_pos om,om,rfl⟩
theorem Qss{fid:FuncId}{first cap:Array Value}{ds:List Bool}(hD:Dat w base (.slice A n c) ps)(hn:ps.length=n)(hmx:n<=140737488355328)(hC:CF w (Value.slice A n c).ownBlock fid first cap ps ds)(hai:ai=(a:Int))(hbi:bi=(b:Int))(hab:a+12<b)(hb:b<=n):
  Ret Tryz.prog 177 [.slice A n c,.int .i64 ai,.int .i64 bi,.func (.func fid) first cap] w λv w'=>∃ ps',DP w w' base A n c ps ps'/\Seg z0 a b ps ps':=by
 subst hai;subst hbi;refine Jz Tryz.func177 Tryz.ntmps177 rfl kr rfl ?_;refine ρ ?_;refine ct ?_ ?_
 .exact decide_eq_true om
 refine ρ ?_;refine alc zXor ?_;intro w1 g a1 hg hB;have H1:=(DP.start hD hn).ext a1;refine ρ ?_;refine sto (hB.cell 0) (hB.frozen 0) ?_;have H2:=H1.box hB rfl hg (.int .u64 (IntKind.u64.wrap ((b:Int)-(a:Int))));have a7:=hB.set 0 (.int .u64 (IntKind.u64.wrap ((b:Int)-(a:Int))));refine ρ ?_;refine cl (Qgs (m:=b-a) (mi:=(b:Int)-(a:Int)) om om om _) ?_;rintro v w' ⟨G,rfl,ac,ab,rfl⟩;refine ρ ?_;refine qn (b-a) 4 ?_;refine ρ ?_;have hq:(b-a) / 4<=(b-a)/\3<=(b-a) / 4/\4*((b-a) / 4)<=b-a:=om
 refine Ja (fun (idx:Nat) (q:List Pr)=>[(0,.slice A n c),(1,.int .i64 (a:Int)),(8,.int .i64 ((b:Int)-(a:Int))),(9,.pointer (some ⟨g,0,none⟩)),(10,.int .u64 (G:Int)),(11,.int .i64 (idx:Int))])
  (λidx q w'=>DP w w' base A n c ps q/\(∃ r:Int,Blk w' g 270 [.int .u64 r])/\a<=idx/\idx<=n/\Seg z0 a b ps q) (λidx _=>n-idx) (a+((b-a) / 4)*2-1) ps sO ⟨H2,⟨_,a7⟩,om,om,Seg.refl _ _ _⟩ ?_
 rintro idx q w3 ⟨H3,⟨r3,a6⟩,ae,hi,U⟩;refine ρ ?_;refine qn (b-a) 4 ?_;refine ρ ?_;refine ci (λh=>?_) (λh=>?_)
 .have a9:idx<=a+((b-a) / 4)*2+1:=by have:=oT h;omega
  refine ρ ?_;refine cl (Qwl H3 a6 hg) ?_;rintro v w4 ⟨r4,rfl,a2,aa,H4,Z⟩;refine ρ ?_;have ho:∃ o:Nat,bits .and .u64 r4 (IntKind.u64.wrap ((G:Int)-1))=(o:Int)/\o<2*(b-a):=by
   obtain ⟨r,rfl⟩:=Int.eq_ofNat_of_zero_le a2;have e:IntKind.u64.wrap ((G:Int)-1)=((G-1:Nat):Int):=by rw [Uv om];omega
   rw [e];refine ⟨r &&& (G-1),bits_and_u64_nat r (G-1) om om,?_⟩;have:=Nat.and_le_right (n:=r) (m:=G-1);omega
  obtain ⟨o,a3,ad⟩:=ho;refine Xa (fun (o:Nat)=>[(0,.slice A n c),(1,.int .i64 (a:Int)),(8,.int .i64 ((b:Int)-(a:Int))),(9,.pointer (some ⟨g,0,none⟩)),(10,.int .u64 (G:Int)),(11,.int .i64 (idx:Int)),(12,.int .i64 (o:Int))]) (λo w'=>DP w w' base A n c ps q/\Blk w' g 270 [.int .u64 r4]/\o<b-a) ?_ ?_
  .have a8:IntKind.i64.wrap (bits .and .u64 r4 (IntKind.u64.wrap ((G:Int)-1)))=(o:Int):=by rw [a3];exact Yh om
   rw [a8];refine ci (λh=>?_) (λh=>?_)
   .have h1:=oT h;refine ρ ?_;exact Jb (o-(b-a)) sO ⟨H4,Z,om⟩
   .have h1:=oF h;refine ρ ?_;exact Jb o sB ⟨H4,Z,om⟩
  rintro o w5 ⟨H5,a5,ho⟩;have J:idx<n:=om
  have O:a+o<n:=om
  refine ρ ?_;refine drC 4 [0,1,2,3,4,5,6,7,8,9,12,13] [(0,10),(0,11),(0,14),(0,15),(0,16),(2,17),(2,18),(2,19)] kr ?_;have C:=H5.drew;obtain ⟨s1,s2,s3,⟨u,s4⟩,s5,s6⟩:=C.swap J O;refine ρp ?_;refine dix (a+o) C.rd O ?_;refine ρd ?_;refine dld (C.cell O) ?_;refine ρd ?_;refine dix (idx) C.rd J ?_;refine ρd ?_;refine dld (C.cell J) ?_;refine ρd ?_;refine dix (idx) C.rd J ?_;refine ρd ?_;refine Jo ?_;refine sto (C.cell J) s1 ?_ (hv:=C.one O);refine ρ ?_;refine Qp ?_;refine Jo ?_;refine ix (a+o) s2 O ?_;refine ρ ?_;refine Qp ?_;refine Jo ?_;refine sto s4 s3 ?_ (hv:=C.one J);refine ρ ?_;have b5:=a5.ext (Ext.refl _).drew;have a4:=b5.grown s6 (b5.ne_own C.d.1 rfl);exact Jl (idx+1) (swp z0 q idx (a+o)) sO ⟨s5,⟨_,a4⟩,om,om,U.trans (Seg.swp om om om om (by rw [H5.l];exact hb))⟩ om
 .refine ρ ?_;exact Gb ⟨q,H3,U⟩
end Go.Proofs.YtebcagekopgdhaaGreatDoor
