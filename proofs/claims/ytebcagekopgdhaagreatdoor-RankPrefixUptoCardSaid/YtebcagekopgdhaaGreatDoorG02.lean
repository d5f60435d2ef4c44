/- Part 2. -/
import Derived.Test.YtebcagekopgdhaaGreatDoorG01
import Derived.Test.YtebcagekopgdhaaGreatDoorRows
import Derived.IntWalk
import Derived.Laws.Cover3
import Derived.Lib.Bytealg
set_option linter.unusedVariables false
set_option maxRecDepth 100000
set_option maxHeartbeats 40000000
namespace Go.Wk
open Go.RowKit
variable {cs xs:List Value}{base c e j m:Nat}{A:Option Addr}
section
variable {P:Program} {n:Nat} {al:AL} {w:World} {Q:Exit->Act->World->Prop} {ops:Array Oper} {rest:List Oper}
variable {d ty:Nat} {op:Op} {pos:String} {aft:Array Edge} {tt:TT}
theorem Qgk{sz:Nat}(ho:w.ownsRow base e sz (.slice A m c) m xs)(hj:j<m)(hl:cs.length=sz)(h1:∀ u∈cs,u.oneCell'=true):
  ∃ w',(storeCells (adr A (j*sz)) cs).run P w=.ok () w'/\w'.ownsRow base e sz (.slice A m c) m (xs.take (j*sz)++cs++xs.drop (j*sz+sz))/\w.grownBy w' (Value.slice A m c).ownBlock:=by
 rcases ho.2 with ⟨_,h0⟩|⟨g,cap,cur,hv,hb,hg,hc,hcm,hcs,ht⟩
 .omega
 injection hv with G _ e3
 subst G;subst e3;have O:j*sz+sz<=m*sz:=by have:=nO sz hj;rw [Nat.succ_mul]at this;exact this
 have J:m*sz<=c*sz:=nO _ hc;have U:adr (some ⟨g,0,none⟩) (j*sz)=⟨g,j*sz,none⟩:=by simp [adr,Vo]
 rw [U];have o:=run_storeCells_at (P:=P) g (j*sz) e cs 0 cur w hg om h1;simp only [Nat.add_zero]at o;refine ⟨_,o,⟨?_,.inr ⟨g,c,_,rfl,hb,setRow_heap w g cur _ e (0,0) hg,hc,hcm,?_,?_⟩⟩,?_⟩
 .have:=ho.1;simp only [List.length_append,List.length_take,List.length_drop];omega
 .simp only [List.size_toArray,List.length_append,List.length_take,List.length_drop,Array.length_toList,hcs,hl];omega
 .simp only;have C:(cur.toList.take (j*sz)++cs).length=j*sz+sz:=by rw [List.length_append,List.length_take,Array.length_toList,hcs,hl];omega
  rw [List.take_append,C];have G:(cur.toList.take (j*sz)++cs).take (m*sz)=cur.toList.take (j*sz)++cs:=List.take_of_length_le om;rw [G,<-ht,List.take_take,Nat.min_eq_left om,List.drop_take,hl]
 .have:=Jjp w g (cur.toList.take (j*sz)++cs++cur.toList.drop (j*sz+cs.length)).toArray;exact this
theorem stoE[h:Tab P tt]{x y:Operand}{t sz:Nat}{k:TK}(ho:w.ownsRow base e sz (.slice A m c) m xs)(hj:j<m)(kk:∀ w1,w1.ownsRow base e sz (.slice A m c) m (xs.take (j*sz)++cs++xs.drop (j*sz+sz))->w.grownBy w1 (Value.slice A m c).ownBlock->WL P n ops Q rest al w1)(h1:∀ u∈cs,u.oneCell'=true)(ht:tk tt t=some k:=by rfl)(hk:k.desc=.invalid:=by rfl)(hs:k.size=sz:=by rfl)(hl:cs.length=sz:=by rfl)(hx:ev al x=some (.pointer (some (adr A (j*sz)))):=by rfl)(hy:ev al y=some (.agg cs.toArray):=by rfl):
  WL P n ops Q (⟨none,.store t x y,ty,pos,aft,none⟩::rest) al w:=by
 obtain ⟨w',C,G,J⟩:=Qgk (P:=P) ho hj hl h1;refine Iy (λa O=>?_) (kk w' G J);have o:=Vw w (Jqp h.ok ht hk w).2;simp [execOp,O.ev hx,O.ev hy,Instr.storeAt,Instr.sureAddr,storeVar,Value.cells,o,hs,hl,C]
end
end Go.Wk
namespace Go.Wk
open Go.RowKit
variable {p q:Bool}{cs vs:List Value}{e len:Nat}{x y:Operand}{k:TK}{t t2:TypeId}
section
variable {P:Program} {n:Nat} {al:AL} {w:World} {Q:Exit->Act->World->Prop} {ops:Array Oper} {rest:List Oper} {drest:List (Nat×Oper)}
variable {d ty:Nat} {op:Op} {pos:String} {aft:Array Edge} {tt:TT}
def toE(P:Program)(ops:Array Oper)(Q:Exit->Act->World->Prop)(w0:World)(rest:List (Nat×Oper)): Exit->Act->World->Prop
 | .normal,a,w=>Ext w0 w/\Qm P ops Q rest a w
 | _,_,_=>False
theorem Ug{w0:World}(hx:Ext w0 w)(h:WD P n ops Q drest al w): QX n (toE P ops Q w0 drest) .normal al w:=λa o=>⟨hx,h a o⟩
theorem Uh{o:Oper}(h:WL P n ops (toE P ops Q w drest) [o] al w): WD P n ops Q ((1,o)::drest) al w:=λa J=>by
 have u:=h a J;unfold wpList at u;unfold Qm wk1;simp only;have C:¬ LetsOut (toE P ops Q w drest):=by rintro ⟨a,w,h⟩;exact h
 split
 .rename_i hw;simp only [hw,if_true]at u;rcases u with u|⟨_,u⟩
  .refine Oper.wp_mono (K:=wpList P ops (toE P ops Q w drest) []) (λU w' O=>O) ?_;unfold Oper.wp at u ⊢;exact Yj (Q:=toE P ops Q w drest) (λc a w G=>G.elim) (λG=>absurd G C) u
  .exact absurd u C
 .rename_i hw;simp only [hw]at u;exact u.2
theorem Qcp(hT:TOk P tt)(ht:tk tt t=some k)(hk:k.desc=.bool){a:Act}(ha:Fr n al a)(hx:ev al x=some (.bool p))(hy:ev al y=some (.bool q))(dst:Option Nat)(w:World):
  (execOp a.eval ⟨dst,.binOp .eql t x y t2,ty,pos,aft,none⟩).run P w=.ok (.value (.bool (p == q))) w:=by
 have o:=Vh hT ht hk rfl;have h:∀ d:Nat,(Op.equalIn (d+1) t (.bool p) (.bool q)).run P w=.ok (p == q) w:=λd=>by simp [Op.equalIn,run_underlying o]
 simp [execOp,ha.ev hx,ha.ev hy,eqGuard,binOp,Op.equal,Op.maxDepth,h 9999]
theorem eqb[h:Tab P tt](kk:WL P n ops Q rest ((d,.bool (p == q))::al) w)(ht:tk tt t=some k:=by rfl)(hk:k.desc=.bool:=by rfl)(hx:ev al x=some (.bool p):=by rfl)(hy:ev al y=some (.bool q):=by rfl)(hd:Nat.blt d n=true:=by rfl):
  WL P n ops Q (⟨some d,.binOp .eql t x y t2,ty,pos,aft,none⟩::rest) al w:=wop hd (λa o=>Qcp h.ok ht hk o hx hy (some d) w) kk
theorem dbsl{t:Nat}{parts:Array (Nat×Operand)}{pw:Array (Nat×Value)}(hb:∀ w:World,(Instr.buildSlice t len pw).run P w=.ok (.slice (some ⟨w.heap.size,0,none⟩) len len) (w.alloc (.cells cs.toArray e)))(kk:∀ w1 b,Ext w w1->w.heap.size<=b->Blk w1 b e cs->WD P n ops Q drest ((d,.slice (some ⟨b,0,none⟩) len len)::al) w1)(hx:evs al (parts.toList.map (·.2))=some vs:=by rfl)(hp:((parts.toList.map (·.1)).zip vs).toArray=pw:=by rfl)(hd:Nat.blt d n=true:=by rfl):
  WD P n ops Q ((1,⟨some d,.buildSlice t len parts,ty,pos,aft,none⟩)::drest) al w :=
 Uh (bsl hb (λw1 b o C u=>Jg (Ug o (kk w1 b o C u))) hx hp hd)
end
end Go.Wk
namespace Go.Wk
open Go.RowKit
variable {L listed:Array Bool}{l:List Oper}{fuel fuel' i id:Nat}{o oi oj:Oper}{w w0:World}
section
variable {P:Program} {ops:Array Oper} {Q:Exit->Act->World->Prop}
def noT: Nat->Bool:=λ_=>false
theorem Qbl: Gb ops noT=true:=by simp [Gb,noT]
def Iw(ops:Array Oper): List (Nat×Nat)->Array Bool->Option (Array Bool)
 | [],listed=>some listed
 | (0,i)::r,listed=>if (Region.ready .any ops listed).contains i && Region.free .any ops listed i && Nat.blt i ops.size then Iw ops r (listed.setIfInBounds i true) else none
 | (1,i)::r,listed=>if (Region.ready .any ops listed == [i]) && Nat.blt i ops.size then Iw ops r (listed.setIfInBounds i true) else none
 | _::_,_=>none
def toK(P:Program)(ops:Array Oper)(Q:Exit->Act->World->Prop)(fuel:Nat)(listed:Array Bool): Exit->Act->World->Prop
 | .normal,a,w=>Yu P ops Q noT fuel listed a w
 | _,_,_=>False
theorem Xjt{a:Act}{K:Act->World->Prop}(h:o.wp P a w K (QF (toK P ops Q fuel listed))): o.wp P a w K (QF Q):=by
 unfold Oper.wp at h ⊢;have u:¬ LetsOut (QF (toK P ops Q fuel listed)):=by rintro ⟨a,w,h⟩;exact h
 exact Yj (Q:=QF (toK P ops Q fuel listed)) (λc a w C=>C.elim) (λC=>absurd C u) h
theorem Jvc(hsel:Region.noSelect ops=true)(fuel:Nat)(listed':Array Bool): ∀ (s:List (Nat×Nat)) (listed:Array Bool) (a:Act) (w:World),Iw ops s listed=some listed'->Qm P ops (toK P ops Q fuel listed') (Jo ops.toList s) a w->Yu P ops Q noT (s.length+fuel) listed a w
 | [],listed,a,w,hB,h=>by
  simp only [Iw,Option.some.injEq]at hB;subst hB;simp only [List.length_nil,Nat.zero_add];exact h
 | (0,i)::r,listed,a,w,hB,h=>by
  simp only [Iw]at hB;split at hB
  .rename_i hc;simp only [Bool.and_eq_true]at hc;obtain ⟨⟨hr,hf⟩,hi0⟩:=hc;have hi:i<ops.size:=by (have:i+1<=ops.size:=by simpa [Nat.blt] using hi0);(omega)
   have ho:ops[i]?=some ops[i]:=Array.getElem?_eq_getElem hi;have hn:nth ops.toList i=some ops[i]:=by rw [Xz];simp [hi]
   simp only [Jo,hn,Qm,wk1]at h;obtain ⟨v,hy,h⟩:=h;rw [show ((0,i)::r).length+fuel=(r.length+fuel)+1 by simp;omega];exact Jmk Qbl ho rfl (Region.noSelect_spec hsel) _ listed a w (Region.free_spec ho hf) (by simpa using hr) hy (Jvc hsel fuel listed' r _ _ _ hB h)
  .cases hB
 | (1,i)::r,listed,a,w,hB,h=>by
  simp only [Iw]at hB;split at hB
  .rename_i hc;simp only [Bool.and_eq_true,beq_iff_eq]at hc;obtain ⟨hr,hi0⟩:=hc;have hi:i<ops.size:=by (have:i+1<=ops.size:=by simpa [Nat.blt] using hi0);(omega)
   have ho:ops[i]?=some ops[i]:=Array.getElem?_eq_getElem hi;have hn:nth ops.toList i=some ops[i]:=by rw [Xz];simp [hi]
   simp only [Jo,hn,Qm,wk1]at h;rw [show ((1,i)::r).length+fuel=(r.length+fuel)+1 by simp;omega];refine .inr ⟨λh0=>(by rw [hr]at h0;cases h0),λj hj=>?_⟩;rw [hr]at hj;obtain rfl:j=i:=by simpa using hj
   unfold wpOp;simp only [ho];split
   .rename_i hw;simp only [hw,if_true]at h;exact .inl (Oper.wp_mono (λa' w' h'=>⟨h'.1,Jvc hsel fuel listed' r _ _ _ hB h'.2⟩) (Xjt h))
   .rename_i hw;simp only [hw]at h;exact ⟨Ext.refl w,Jvc hsel fuel listed' r _ _ _ hB h⟩
  .cases hB
 | (k+2,i)::r,listed,a,w,hB,h=>by simp [Iw]at hB
end
section
variable {P:Program} {n:Nat} {al al':AL} {w:World} {Q:Exit->Act->World->Prop} {ops:Array Oper}
def WG(P:Program)(n:Nat)(ops:Array Oper)(Q:Exit->Act->World->Prop)(fuel:Nat)(listed:Array Bool)(al:AL)(w:World): Prop:=∀ a,Fr n al a->Yu P ops Q noT fuel listed a w
theorem WG.sub{fuel:Nat}{listed:Array Bool}(hs:Sub al' al)(h:WG P n ops Q fuel listed al' w): WG P n ops Q fuel listed al w:=λa o=>h a (o.sub hs)
theorem drG{tt:TT}[ht:Tab P tt](hsel:Region.noSelect l.toArray=true)(h:WG P n l.toArray Q l.toArray.size (Array.replicate l.toArray.size false) al w.drew): WC P n (.region id l.toArray true) Q al w:=λa o=>
 wp_region_any ht.mixed (Jcl (T:=noT) _ _ _ _ (h a o))
theorem Ke(s:List (Nat×Nat))(listed':Array Bool)(hsel:Region.noSelect l.toArray=true)(hB:Iw l.toArray s listed=some listed')(hf:fuel=s.length+fuel')(h:WD P n l.toArray (toK P l.toArray Q fuel' listed') (Jo l s) al w): WG P n l.toArray Q fuel listed al w:=λa o=>by
 subst hf;refine Jvc hsel fuel' listed' s listed a w hB ?_;have:=h a o;simpa using this
theorem Ko(h:WG P n ops Q fuel listed al w): QX n (toK P ops Q fuel listed) .normal al w:=h
theorem gend(hr:Region.ready .any ops listed=[])(h:QX n Q .normal al w): WG P n ops Q 0 listed al w:=λa o=>⟨hr,h a o⟩
def toJ(P:Program)(ops:Array Oper)(Q:Exit->Act->World->Prop)(w0:World)(fuel:Nat)(listed:Array Bool): Exit->Act->World->Prop
 | .normal,a,w=>Ext w0 w/\Yu P ops Q noT fuel listed a w
 | _,_,_=>False
theorem Jyq(hx:Ext w0 w)(h:WG P n ops Q fuel listed al w): QX n (toJ P ops Q w0 fuel listed) .normal al w:=λa o=>⟨hx,h a o⟩
theorem Jlz(ho:ops[i]?=some o)(h:WL P n ops (toJ P ops Q w fuel listed) [o] al w): ∀ a,Fr n al a->wpOp P ops (QF Q) i (λa' w'=>Ext w w'/\Yu P ops Q noT fuel listed a' w') a w:=λa J=>by
 have u:=h a J;unfold wpList at u;unfold wpOp;simp only [ho];have C:¬ LetsOut (toJ P ops Q w fuel listed):=by rintro ⟨a,w,h⟩;exact h
 split
 .rename_i hw;simp only [hw,if_true]at u;rcases u with u|⟨_,u⟩
  .left
   refine Oper.wp_mono (K:=wpList P ops (toJ P ops Q w fuel listed) []) (λa' w' O=>O) ?_;unfold Oper.wp at u ⊢;exact Yj (Q:=toJ P ops Q w fuel listed) (λc a w G=>G.elim) (λG=>absurd G C) u
  .exact absurd u C
 .rename_i hw;simp only [hw]at u;exact u
theorem gtwo(i j:Nat)(hr:Region.ready .any l.toArray listed=[i,j])(hf:fuel=fuel'+1)(hi:nth l i=some oi)(hj:nth l j=some oj)(h1:WL P n l.toArray (toJ P l.toArray Q w fuel' (listed.setIfInBounds i true)) [oi] al w)(h2:WL P n l.toArray (toJ P l.toArray Q w fuel' (listed.setIfInBounds j true)) [oj] al w): WG P n l.toArray Q fuel listed al w:=λa u=>by
 subst hf;have G:l.toArray[i]?=some oi:=by rw [<-hi,Xz];simp
 have C:l.toArray[j]?=some oj:=by rw [<-hj,Xz];simp
 refine .inr ⟨λh0=>(by rw [hr]at h0;cases h0),λk o=>?_⟩;rw [hr]at o;simp only [List.mem_cons,List.not_mem_nil,or_false]at o;rcases o with rfl|rfl
 .exact Jlz G h1 a u
 .exact Jlz C h2 a u
theorem gcut{α:Type}(fuel':Nat)(L':Array Bool)(fr:α->AL)(I:α->World->Prop)(h2:∀ x w,I x w->WG P n ops Q fuel' L' (fr x) w)(h1:(∀ x al w,I x w->Sub (fr x) al->WG P n ops Q fuel' L' al w)->WG P n ops Q fuel L al w): WG P n ops Q fuel L al w:=h1 λx al w hi o=>(h2 x w hi).sub o
def lst(m k:Nat): Array Bool:=((List.range m).map λi=>Nat.blt i k).toArray
end
end Go.Wk
namespace Go.Wk
open Go.RowKit
variable {L listed listed':Array Bool}{l:List Oper}{fuel fuel' i id:Nat}{o oi oj:Oper}{w w0:World}
section
variable {P:Program} {ops:Array Oper} {Q:Exit->Act->World->Prop} {T:Nat->Bool}
def Gk(ops:Array Oper)(T:Nat->Bool)(F:Nat): List (Nat×Nat)->Array Bool->Option (Array Bool)
 | [],listed=>some listed
 | (0,i)::r,listed=>if (Region.ready .any ops listed).contains i && Region.free .any ops listed i && Nat.blt i ops.size && !T i && (List.range ops.size).all (λt=>!T t || Uw ops F t i) then Gk ops T F r (listed.setIfInBounds i true) else none
 | (1,i)::r,listed=>if (Region.ready .any ops listed == [i]) && Nat.blt i ops.size then Gk ops T F r (listed.setIfInBounds i true) else none
 | (2,i)::r,listed=>if (Region.ready .any ops listed == [i]) && Nat.blt i ops.size && T i then Gk ops T F r (listed.setIfInBounds i true) else none
 | _::_,_=>none
def Ih(P:Program)(ops:Array Oper)(Q:Exit->Act->World->Prop)(T:Nat->Bool)(fuel:Nat)(listed:Array Bool): Exit->Act->World->Prop
 | .normal,a,w=>Closed ops listed->Vk P ops Q T fuel listed a w
 | _,_,_=>False
theorem Qwr{a:Act}{K:Act->World->Prop}(h:o.wp P a w K (QF (Ih P ops Q T fuel listed))): o.wp P a w K (QF Q):=by
 unfold Oper.wp at h ⊢;have u:¬ LetsOut (QF (Ih P ops Q T fuel listed)):=by rintro ⟨a,w,h⟩;exact h
 exact Yj (Q:=QF (Ih P ops Q T fuel listed)) (λc a w C=>C.elim) (λC=>absurd C u) h
theorem Jqd(hsel:Region.noSelect ops=true)(F fuel:Nat)(listed':Array Bool): ∀ (s:List (Nat×Nat)) (listed:Array Bool) (a:Act) (w:World),Closed ops listed->Gk ops T F s listed=some listed'->Qm P ops (Ih P ops Q T fuel listed') (Jo ops.toList s) a w->Vk P ops Q T (s.length+fuel) listed a w
 | [],listed,a,w,hcl,hB,h=>by
  simp only [Gk,Option.some.injEq]at hB;subst hB;simp only [List.length_nil,Nat.zero_add];exact h hcl
 | (0,i)::r,listed,a,w,hcl,hB,h=>by
  simp only [Gk]at hB;split at hB
  .rename_i hc;simp only [Bool.and_eq_true]at hc;obtain ⟨⟨⟨⟨hr,hf⟩,hi0⟩,hTi⟩,hre⟩:=hc;have hi:i<ops.size:=by (have:i+1<=ops.size:=by simpa [Nat.blt] using hi0);(omega)
   have ho:ops[i]?=some ops[i]:=Array.getElem?_eq_getElem hi;have hn:nth ops.toList i=some ops[i]:=by rw [Xz];simp [hi]
   have hr':i∈Region.ready .any ops listed:=by simpa using hr
   simp only [Jo,hn,Qm,wk1]at h;obtain ⟨v,hy,h⟩:=h;rw [show ((0,i)::r).length+fuel=(r.length+fuel)+1 by simp;omega];refine Jvd Ext Ext.refl Ext.trans ho (Region.noSelect_spec hsel) ?_ _ listed a w hcl (Region.free_spec ho hf) hr' hy (Jqd hsel F fuel listed' r _ _ _ (hcl.step hr') hB h);intro listed2 j hcl2 hri hrj w w' hx;cases hT:T j with
   | false=>exact hx hT
   | true=>
    obtain ⟨_,oj,hoj,_⟩:=mem_ready.1 hrj;have hjl:j<ops.size:=(Array.getElem?_eq_some_iff.1 hoj).1;have h9:=List.all_eq_true.1 hre j (List.mem_range.2 hjl);rw [hT]at h9;have h1:=Jkf hcl2 F j i oj hoj (Jkd hoj hrj) (by simpa using h9);have h0:=(mem_ready.1 hri).1;rcases Nat.lt_or_ge i listed2.size with h'|h'
    .simp [h']at h0 h1;rw [h0]at h1;cases h1
    .simp [Array.getElem?_eq_none h']at h1
  .cases hB
 | (1,i)::r,listed,a,w,hcl,hB,h=>by
  simp only [Gk]at hB;split at hB
  .rename_i hc;simp only [Bool.and_eq_true,beq_iff_eq]at hc;obtain ⟨hr,hi0⟩:=hc;have hi:i<ops.size:=by (have:i+1<=ops.size:=by simpa [Nat.blt] using hi0);(omega)
   have ho:ops[i]?=some ops[i]:=Array.getElem?_eq_getElem hi;have hn:nth ops.toList i=some ops[i]:=by rw [Xz];simp [hi]
   have hcl':Closed ops (listed.setIfInBounds i true):=hcl.step (by rw [hr];exact List.mem_singleton.2 rfl);simp only [Jo,hn,Qm,wk1]at h;rw [show ((1,i)::r).length+fuel=(r.length+fuel)+1 by simp;omega];refine ⟨λh0=>(by rw [hr]at h0;cases h0),λj hj=>?_⟩;rw [hr]at hj;obtain rfl:j=i:=by simpa using hj
   unfold wpOp;simp only [ho];split
   .rename_i hw;simp only [hw,if_true]at h;exact .inl (Oper.wp_mono (λa' w' h'=>⟨λ_=>h'.1,Jqd hsel F fuel listed' r _ _ _ hcl' hB h'.2⟩) (Qwr h))
   .rename_i hw;simp only [hw]at h;exact ⟨λ_=>Ext.refl w,Jqd hsel F fuel listed' r _ _ _ hcl' hB h⟩
  .cases hB
 | (2,i)::r,listed,a,w,hcl,hB,h=>by
  simp only [Gk]at hB;split at hB
  .rename_i hc;simp only [Bool.and_eq_true,beq_iff_eq]at hc;obtain ⟨⟨hr,hi0⟩,hTi⟩:=hc;have hi:i<ops.size:=by (have:i+1<=ops.size:=by simpa [Nat.blt] using hi0);(omega)
   have ho:ops[i]?=some ops[i]:=Array.getElem?_eq_getElem hi;have hn:nth ops.toList i=some ops[i]:=by rw [Xz];simp [hi]
   have hcl':Closed ops (listed.setIfInBounds i true):=hcl.step (by rw [hr];exact List.mem_singleton.2 rfl);simp only [Jo,hn,Qm,wk1]at h;rw [show ((2,i)::r).length+fuel=(r.length+fuel)+1 by simp;omega];refine ⟨λh0=>(by rw [hr]at h0;cases h0),λj hj=>?_⟩;rw [hr]at hj;obtain rfl:j=i:=by simpa using hj
   unfold wpOp;simp only [ho];split
   .rename_i hw;simp only [hw,if_true]at h;exact .inl (Oper.wp_mono (λa' w' h'=>⟨λh0=>(by rw [hTi]at h0;cases h0),Jqd hsel F fuel listed' r _ _ _ hcl' hB h'⟩) (Qwr h))
   .rename_i hw;simp only [hw]at h;exact ⟨λ_=>Ext.refl w,Jqd hsel F fuel listed' r _ _ _ hcl' hB h⟩
  .cases hB
 | (k+3,i)::r,listed,a,w,hcl,hB,h=>by simp [Gk]at hB
end
section
variable {P:Program} {n:Nat} {al al':AL} {w:World} {Q:Exit->Act->World->Prop} {ops:Array Oper} {T:Nat->Bool}
def WH(P:Program)(n:Nat)(ops:Array Oper)(Q:Exit->Act->World->Prop)(T:Nat->Bool)(fuel:Nat)(listed:Array Bool)(al:AL)(w:World): Prop:=Closed ops listed->∀ a,Fr n al a->Vk P ops Q T fuel listed a w
theorem WH.sub{fuel:Nat}{listed:Array Bool}(hs:Sub al' al)(h:WH P n ops Q T fuel listed al' w): WH P n ops Q T fuel listed al w:=λo a u=>h o a (u.sub hs)
theorem Qzd(ops:Array Oper)(m:Nat): Closed ops (Array.replicate m false):=λk o _ u=>by
 exfalso
 rcases Nat.lt_or_ge k m with h|h
 .simp [h]at u
 .simp [Nat.not_lt.2 h]at u
theorem drH{tt:TT}[ht:Tab P tt](T:Nat->Bool)(h:WH P n l.toArray Q T l.toArray.size (Array.replicate l.toArray.size false) al w.drew): WC P n (.region id l.toArray true) Q al w:=λa o=>
 wp_region_any ht.mixed (Jcm (T:=T) _ _ _ _ (h (Qzd _ _) a o))
theorem hpre(F:Nat)(s:List (Nat×Nat))(listed':Array Bool)(hsel:Region.noSelect l.toArray=true)(hB:Gk l.toArray T F s listed=some listed')(hf:fuel=s.length+fuel')(h:WD P n l.toArray (Ih P l.toArray Q T fuel' listed') (Jo l s) al w): WH P n l.toArray Q T fuel listed al w:=λo a u=>by
 subst hf;refine Jqd hsel F fuel' listed' s listed a w o hB ?_;have:=h a u;simpa using this
theorem Qz(h:WH P n ops Q T fuel listed al w): QX n (Ih P ops Q T fuel listed) .normal al w:=λa u o=>h o a u
theorem Ks(hr:Region.ready .any ops listed=[])(h:QX n Q .normal al w): WH P n ops Q T 0 listed al w:=λ_ a o=>⟨hr,h a o⟩
def Il(P:Program)(ops:Array Oper)(Q:Exit->Act->World->Prop)(T:Nat->Bool)(w0:World)(fuel:Nat)(listed:Array Bool): Exit->Act->World->Prop
 | .normal,a,w=>Ext w0 w/\(Closed ops listed->Vk P ops Q T fuel listed a w)
 | _,_,_=>False
theorem Gq(hx:Ext w0 w)(h:WH P n ops Q T fuel listed al w): QX n (Il P ops Q T w0 fuel listed) .normal al w:=λa u=>⟨hx,λo=>h o a u⟩
theorem Jlx(ho:ops[i]?=some o)(hc:Closed ops listed)(h:WL P n ops (Il P ops Q T w fuel listed) [o] al w): ∀ a,Fr n al a->wpOp P ops (QF Q) i (λa' w'=>(T i=false->Ext w w')/\Vk P ops Q T fuel listed a' w') a w:=λa O=>by
 have u:=h a O;unfold wpList at u;unfold wpOp;simp only [ho];have C:¬ LetsOut (Il P ops Q T w fuel listed):=by rintro ⟨a,w,h⟩;exact h
 split
 .rename_i hw;simp only [hw,if_true]at u;rcases u with u|⟨_,u⟩
  .left
   refine Oper.wp_mono (K:=wpList P ops (Il P ops Q T w fuel listed) []) (λa' w' J=>⟨λ_=>J.1,J.2 hc⟩) ?_;unfold Oper.wp at u ⊢;exact Yj (Q:=Il P ops Q T w fuel listed) (λc a w G=>G.elim) (λG=>absurd G C) u
  .exact absurd u C
 .rename_i hw;simp only [hw]at u;exact ⟨λ_=>u.1,u.2 hc⟩
theorem Jkt(i j:Nat)(hr:Region.ready .any l.toArray listed=[i,j])(hf:fuel=fuel'+1)(hi:nth l i=some oi)(hj:nth l j=some oj)(h1:WL P n l.toArray (Il P l.toArray Q T w fuel' (listed.setIfInBounds i true)) [oi] al w)(h2:WL P n l.toArray (Il P l.toArray Q T w fuel' (listed.setIfInBounds j true)) [oj] al w): WH P n l.toArray Q T fuel listed al w:=λC a G=>by
 subst hf;have O:l.toArray[i]?=some oi:=by rw [<-hi,Xz];simp
 have J:l.toArray[j]?=some oj:=by rw [<-hj,Xz];simp
 refine ⟨λh0=>(by rw [hr]at h0;cases h0),λk u=>?_⟩;have o:=u;rw [hr]at u;simp only [List.mem_cons,List.not_mem_nil,or_false]at u;rcases u with rfl|rfl
 .exact Jlx O (C.step o) h1 a G
 .exact Jlx J (C.step o) h2 a G
theorem hlist(e:listed=listed')(h:WH P n ops Q T fuel listed' al w): WH P n ops Q T fuel listed al w:=by subst e;exact h
theorem Jxt{α:Type}(fuel':Nat)(L':Array Bool)(fr:α->AL)(I:α->World->Prop)(h2:∀ x w,I x w->WH P n ops Q T fuel' L' (fr x) w)(h1:(∀ x al w,I x w->Sub (fr x) al->WH P n ops Q T fuel' L' al w)->WH P n ops Q T fuel L al w): WH P n ops Q T fuel L al w:=h1 λx al w hi o=>(h2 x w hi).sub o
end
end Go.Wk
namespace Go.Wk
open Go.RowKit
variable {a b z:Int}{k1 kd:IntKind}{i x y:Operand}{k:TK}{t yt:TypeId}
section
variable {P:Program} {n:Nat} {al:AL} {w:World} {Q:Exit->Act->World->Prop} {ops:Array Oper} {rest:List Oper} {drest:List (Nat×Oper)}
variable {d ty:Nat} {op:Op} {pos:String} {aft:Array Edge} {tt:TT}
theorem Qbg(hT:TOk P tt){t m e sz:Nat}(ht:tk tt t=some k)(hk:k.desc=.array m e)(hz:k.esz=sz): P.underlying t=some (.array m e)/\Zh P e=some sz:=by
 have:=hT.at ht;unfold Yh at this;rw [hk]at this;subst hz;exact ⟨this.1,this.2.1⟩
theorem Jdp(hT:TOk P tt){t m e:Nat}{p:Addr}(j:Nat)(ht:tk tt t=some k)(hk:k.desc=.array m e)(hlt:j<m){a:Act}(ha:Fr n al a)(hx:ev al x=some (.pointer (some p)))(hi:ev al i=some (.int kd z))(hj:z=(j:Int))(dst:Option Nat)(w:World):
  (execOp a.eval ⟨dst,.indexAddr t x i,ty,pos,aft,none⟩).run P w=.ok (.value (.pointer (some (p.add (j*k.esz))))) w:=by
 obtain ⟨o,u⟩:=Qbg hT ht hk rfl;subst hj;simp [execOp,ha.ev hx,ha.ev hi,Instr.indexAt,asIntOf,run_underlying o,Vw w u,Instr.sureAddr];intro h;omega
theorem Qcn(h0:b≠0){e:Act}(he:Fr n al e)(hx:ev al x=some (.int k1 a))(hy:ev al y=some (.int k1 b))(dst:Option Nat)(w:World):
  (execOp e.eval ⟨dst,.binOp .rem t x y yt,ty,pos,aft,none⟩).run P w=.ok (.value (.int k1 (a.tmod b))) w:=by
 simp [execOp,he.ev hx,he.ev hy,eqGuard,binOp,Op.intDiv,h0]
theorem rem(h0:b≠0)(kk:WL P n ops Q rest ((d,.int k1 (a.tmod b))::al) w)(hx:ev al x=some (.int k1 a):=by rfl)(hy:ev al y=some (.int k1 b):=by rfl)(hd:Nat.blt d n=true:=by rfl):
  WL P n ops Q (⟨some d,.binOp .rem t x y yt,ty,pos,aft,none⟩::rest) al w:=wop hd (λe o=>Qcn h0 o hx hy (some d) w) kk
end
end Go.Wk
namespace Go.Proofs.YtebcagekopgdhaaGreatDoor
namespace Pl
variable {a b l:List UInt32}{i m n:Nat}{c:UInt32}
def val: List UInt32->Nat
 | []=>0
 | c::l=>c.toNat+4294967296*val l
def Jj(n:Nat): List UInt32:=if h:n=0 then [] else UInt32.ofNat n::Jj (n / 4294967296)
termination_by n
decreasing_by exact Nat.div_lt_self om (by decide)
theorem limbs_0: Jj 0=[]:=by rw [Jj];rfl
theorem Jym(h:n≠0): Jj n=UInt32.ofNat n::Jj (n / 4294967296):=by rw [Jj,dif_neg h]
theorem Qln(h:c.toNat+4294967296*m≠0): Jj (c.toNat+4294967296*m)=c::Jj m:=by
 have o:=c.toNat_lt;rw [Jym h];congr 1
 .apply UInt32.toNat_inj.1
  rw [UInt32.toNat_ofNat'];have:c.toNat<4294967296:=o;omega
 .congr 1
  have:c.toNat<4294967296:=o;omega
def Xb: List UInt32->List UInt32
 | []=>[]
 | c::l=>if Xb l=[]/\c=0 then [] else c::Xb l
theorem val_0(h:Xb l=[]): val l=0:=by
 induction l with
 | nil=>rfl
 | cons c l ih=>
  simp only [Xb]at h;split at h
  .rename_i h2;rw [val,ih h2.1,h2.2];rfl
  .cases h
theorem Ky: ∀ l:List UInt32,Xb l=Jj (val l)
 | []=>by rw [val,limbs_0];rfl
 | c::l=>by
  have ih:=Ky l;simp only [Xb,val];split
  .rename_i h;rw [val_0 h.1,h.2];exact limbs_0.symm
  .rename_i h;rw [Qln,ih];intro h0;apply h
   have hv:val l=0:=om
   refine ⟨?_,?_⟩
   .rw [ih,hv,limbs_0]
   .apply UInt32.toNat_inj.1
    show c.toNat=0;omega
theorem Zg(n:Nat): val (Jj n)=n:=by
 induction n using Nat.strongRecOn with
 | ind n ih=>
  by_cases h:n=0
  .subst h;rw [limbs_0];rfl
  .rw [Jym h,val,ih (n / 4294967296) (Nat.div_lt_self om (by decide)),UInt32.toNat_ofNat'];omega
theorem Qyq(n:Nat): Xb (Jj n)=Jj n:=by rw [Ky,Zg]
theorem Jnh(l:List UInt32): Xb (l++[0])=Xb l:=by
 induction l with
 | nil=>rfl
 | cons c l ih=>simp only [List.cons_append,Xb,ih]
theorem Qyp(l:List UInt32)(h:c≠0): Xb (l++[c])=l++[c]:=by
 induction l with
 | nil=>simp [Xb,h]
 | cons d l ih=>simp only [List.cons_append,Xb,ih];simp
theorem Ic(a b:List UInt32): val (a++b)=val a+4294967296^a.length*val b:=by
 induction a with
 | nil=>simp [val]
 | cons c a ih=>rw [List.cons_append,val,val,ih,List.length_cons,Nat.pow_succ,Nat.mul_add,<-Nat.mul_assoc,Nat.mul_comm (4294967296^a.length) 4294967296];omega
theorem Jcn(a:List UInt32): val a<4294967296^a.length:=by
 induction a with
 | nil=>simp [val]
 | cons c a ih=>
  have o:c.toNat<4294967296:=c.toNat_lt;rw [val,List.length_cons,Nat.pow_succ];have:4294967296*(val a+1)<=4294967296*4294967296^a.length:=Nat.mul_le_mul_left _ ih;rw [Nat.mul_comm (4294967296^a.length)];omega
theorem Qyj(l:List UInt32)(h:c≠0): 4294967296^l.length<=val (l++[c]):=by
 have o:0<c.toNat:=by
  rcases Nat.eq_zero_or_pos c.toNat with h0|h0
  .exact absurd (UInt32.toNat_inj.1 h0) h
  .exact h0
 rw [Ic,val];have:4294967296^l.length*1<=4294967296^l.length*(c.toNat+4294967296*val []):=Nat.mul_le_mul_left _ om;omega
theorem Qlm(h:n≠0): ∃ l c,Jj n=l++[c]/\c≠0:=by
 rcases List.eq_nil_or_concat (Jj n) with h0|⟨l,c,h0⟩
 .have:=Zg n;rw [h0]at this;exact absurd this.symm h
 .refine ⟨l,c,by rw [h0];simp,λC=>?_⟩;subst C;have o:=Qyq n;rw [h0,List.concat_eq_append,Jnh]at o;have u:=congrArg List.length o;have G:(Xb l).length<=l.length:=by
   clear o u h0;induction l with
   | nil=>simp [Xb]
   | cons c l ih=>simp only [Xb];split<;>simp;exact ih
  simp at u;omega
theorem Qjd(h:n≠0): 4294967296^((Jj n).length-1)<=n:=by
 obtain ⟨l,c,o,u⟩:=Qlm h;have:=Qyj l u;rw [<-o,Zg]at this;rw [o];simpa using this
theorem Qll(n:Nat): n<4294967296^(Jj n).length:=by have:=Jcn (Jj n);rwa [Zg]at this
theorem Jfv(h:(Jj n).length<(Jj m).length): n<m:=by
 have o:m≠0:=λe=>by subst e;rw [limbs_0]at h;simp at h
 have G:=Qjd o;have C:=Qll n;have u:4294967296^(Jj n).length<=4294967296^((Jj m).length-1):=Nat.pow_le_pow_right (by decide) om;omega
def Ve(n m:Nat): Int:=if n<m then -1 else if m<n then 1 else 0
theorem Jmz(ha:i<a.length)(hab:a.length=b.length)(ht:a.drop (i+1)=b.drop (i+1))(hl:(a.getD i 0).toNat<(b.getD i 0).toNat): val a<val b:=by
 have o:i<b.length:=om
 have O:a=a.take i++(a.getD i 0::a.drop (i+1)):=by
  have e:a.getD i 0=a[i]:=by simp [List.getD,List.getElem?_eq_getElem ha]
  rw [e,<-List.drop_eq_getElem_cons ha,List.take_append_drop]
 have J:b=b.take i++(b.getD i 0::b.drop (i+1)):=by
  have e:b.getD i 0=b[i]:=by simp [List.getD,List.getElem?_eq_getElem o]
  rw [e,<-List.drop_eq_getElem_cons o,List.take_append_drop]
 rw [O,J,Ic,Ic,val,val,ht];have G:(a.take i).length=i:=by rw [List.length_take];omega
 have C:(b.take i).length=i:=by rw [List.length_take];omega
 have u:=Jcn (a.take i);rw [G]at u ⊢;rw [C];have:4294967296^i*((a.getD i 0).toNat+1+4294967296*val (b.drop (i+1)))<=4294967296^i*((b.getD i 0).toNat+4294967296*val (b.drop (i+1))):=Nat.mul_le_mul_left _ om;rw [Nat.add_assoc,Nat.add_comm 1,<-Nat.add_assoc,Nat.mul_add,Nat.mul_one]at this;omega
end Pl
open Go.RowKit Go.Wk
def tt: TT:=[(3,{ desc:=.int .i64 }),
 (2,{ desc:=.int .i64 }),
 (5,{ desc:=.int .u8 }),
 (23,{ desc:=.int .u16 }),
 (110,{ desc:=.int .u32 }),
 (22,{ desc:=.int .u64 }),
 (111,{ desc:=.int .u64 }),
 (4,{ desc:=.bool }),
 (9,{ desc:=.string }),
 (38,{ desc:=.int .i64 }),
 (256,{ desc:=.int .i64 }),
 (270,{ desc:=.int .u64 }),
 (29,{ desc:=.slice 110,esz:=1 }),
 (24,{ desc:=.slice 4,esz:=1 }),
 (44,{ desc:=.slice 3,esz:=1 }),
 (248,{ desc:=.slice 5,esz:=1 }),
 (28,{ desc:=.slice 110,esz:=1 }),
 (37,{ desc:=.slice 47,esz:=3 }),
 (36,{ desc:=.slice 47,esz:=3 }),
 (54,{ desc:=.slice 37,esz:=1 }),
 (50,{ desc:=.slice 44,esz:=1 }),
 (51,{ desc:=.slice 54,esz:=1 }),
 (25,{ desc:=.slice 187,esz:=3 }),
 (90,{ desc:=.slice 99,esz:=3 }),
 (134,{ desc:=.slice 140,esz:=3 }),
 (26,{ desc:=.slice 134,esz:=1 }),
 (27,{ desc:=.slice 219,esz:=1 }),
 (154,{ desc:=.slice 205,esz:=1 }),
 (155,{ desc:=.slice 213,esz:=1 }),
 (206,{ desc:=.slice 247,esz:=2 }),
 (282,{ desc:=.slice 288,esz:=1 }),
 (279,{ desc:=.slice 282,esz:=1 }),
 (283,{ desc:=.slice 297,esz:=2 }),
 (312,{ desc:=.slice 29,esz:=1 }),
 (47,{ desc:=.invalid,size:=3,offs:=[0,1,2] }),
 (95,{ desc:=.invalid,size:=2,offs:=[0,1] }),
 (99,{ desc:=.invalid,size:=3,offs:=[0,1] }),
 (92,{ desc:=.invalid,size:=5,offs:=[0,1,2,3,4] }),
 (31,{ desc:=.invalid,size:=5,offs:=[0,1,2,3,4] }),
 (53,{ desc:=.invalid,size:=6,offs:=[0,1,2,3,4,5] }),
 (119,{ desc:=.invalid,size:=5,offs:=[0,1,2,3,4] }),
 (187,{ desc:=.invalid,size:=3,offs:=[0,1,2] }),
 (149,{ desc:=.invalid,size:=2,offs:=[0,1] }),
 (138,{ desc:=.invalid,size:=2,offs:=[0,1] }),
 (231,{ desc:=.invalid,size:=4,offs:=[0,3] }),
 (233,{ desc:=.invalid,size:=9,offs:=[0,4,5,6,7,8] }),
 (140,{ desc:=.invalid,size:=3,offs:=[0,1] }),
 (247,{ desc:=.invalid,size:=2,offs:=[0,1] }),
 (157,{ desc:=.invalid,size:=10,offs:=[0,5,6,7,8,9] }),
 (175,{ desc:=.invalid,size:=9,offs:=[0,5,6,7,8] }),
 (61,{ desc:=.invalid,size:=7,offs:=[0,5,6] }),
 (281,{ desc:=.invalid,size:=4,offs:=[0,1,2,3] }),
 (297,{ desc:=.invalid,size:=2,offs:=[0,1] }),
 (285,{ desc:=.invalid,size:=1,offs:=[0] }),
 (300,{ desc:=.invalid,size:=2,offs:=[0,1] }),
 (303,{ desc:=.invalid,size:=69,offs:=[0,1,2,4,68] }),
 (168,{ desc:=.pointer 175 }),
 (136,{ desc:=.pointer 233 }),
 (204,{ desc:=.pointer 157 }),
 (215,{ desc:=.pointer 140 }),
 (278,{ desc:=.pointer 281 }),
 (288,{ desc:=.pointer 303 }),
 (274,{ desc:=.pointer 3 }),
 (292,{ desc:=.pointer 270 }),
 (198,{ desc:=.array 32 3,size:=32,esz:=1 }),
 (199,{ desc:=.array 32 110,size:=32,esz:=1 }),
 (301,{ desc:=.array 32 300,size:=64,esz:=2 }),
 (308,{ desc:=.array 24 5,size:=24,esz:=1 }),
 (193,{ desc:=.func #[37] #[4] false }),
 (219,{ desc:=.map 9 3 }),
 (205,{ desc:=.map 9 4 }),
 (213,{ desc:=.map 9 29 }),
 (173,{ desc:=.map 3 138 }),
 (234,{ desc:=.func #[136] #[3] false })]
theorem Jqk: TOk Tryz.prog tt:=⟨⟨kr,kr⟩,
 ⟨kr,kr⟩,
 ⟨kr,kr⟩,
 ⟨kr,kr⟩,
 ⟨kr,kr⟩,
 ⟨kr,kr⟩,
 ⟨kr,kr⟩,
 ⟨kr,kr⟩,
 ⟨kr,kr⟩,
 ⟨kr,kr⟩,
 ⟨kr,kr⟩,
 ⟨kr,kr⟩,
 ⟨kr,kr,kr⟩,
 ⟨kr,kr,kr⟩,
 ⟨kr,kr,kr⟩,
 ⟨kr,kr,kr⟩,
 ⟨kr,kr,kr⟩,
 ⟨kr,kr,kr⟩,
 ⟨kr,kr,kr⟩,
 ⟨kr,kr,kr⟩,
 ⟨kr,kr,kr⟩,
 ⟨kr,kr,kr⟩,
 ⟨kr,kr,kr⟩,
 ⟨kr,kr,kr⟩,
 ⟨kr,kr,kr⟩,
 ⟨kr,kr,kr⟩,
 ⟨kr,kr,kr⟩,
 ⟨kr,kr,kr⟩,
 ⟨kr,kr,kr⟩,
 ⟨kr,kr,kr⟩,
 ⟨kr,kr,kr⟩,
 ⟨kr,kr,kr⟩,
 ⟨kr,kr,kr⟩,
 ⟨kr,kr,kr⟩,
 ⟨_,Tryz.underlying47,kr,kr⟩,
 ⟨_,Tryz.underlying95,kr,kr⟩,
 ⟨_,Tryz.underlying99,kr,kr⟩,
 ⟨_,Tryz.underlying92,kr,kr⟩,
 ⟨_,Tryz.underlying31,kr,kr⟩,
 ⟨_,Tryz.underlying53,kr,kr⟩,
 ⟨_,Tryz.underlying119,kr,kr⟩,
 ⟨_,Tryz.underlying187,kr,kr⟩,
 ⟨_,Tryz.underlying149,kr,kr⟩,
 ⟨_,Tryz.underlying138,kr,kr⟩,
 ⟨_,Tryz.underlying231,kr,kr⟩,
 ⟨_,Tryz.underlying233,kr,kr⟩,
 ⟨_,Tryz.underlying140,kr,kr⟩,
 ⟨_,Tryz.underlying247,kr,kr⟩,
 ⟨_,Tryz.underlying157,kr,kr⟩,
 ⟨_,Tryz.underlying175,kr,kr⟩,
 ⟨_,Tryz.underlying61,kr,kr⟩,
 ⟨_,Tryz.underlying281,kr,kr⟩,
 ⟨_,Tryz.underlying297,kr,kr⟩,
 ⟨_,Tryz.underlying285,kr,kr⟩,
 ⟨_,Tryz.underlying300,kr,kr⟩,
 ⟨_,Tryz.underlying303,kr,kr⟩,
 ⟨kr,kr⟩,
 ⟨kr,kr⟩,
 ⟨kr,kr⟩,
 ⟨kr,kr⟩,
 ⟨kr,kr⟩,
 ⟨kr,kr⟩,
 ⟨kr,kr⟩,
 ⟨kr,kr⟩,
 ⟨kr,kr,kr⟩,
 ⟨kr,kr,kr⟩,
 ⟨kr,kr,kr⟩,
 ⟨kr,kr,kr⟩,
 ⟨kr,kr⟩,
 ⟨kr,kr⟩,
 ⟨kr,kr⟩,
 ⟨kr,kr⟩,
 ⟨kr,kr⟩,
 ⟨kr,kr⟩,trivial⟩
theorem mixed: Tryz.prog.follows .mixedOrders=true:=kr
instance:Tab Tryz.prog tt:=⟨Jqk,mixed⟩
theorem EN: ElT Tryz.prog 29 110 1 4 (.int .u32 0):=⟨Tryz.underlying29,info_parts kr,rfl,by decide⟩
theorem EV: ElT Tryz.prog 37 47 3 32 (.agg #[.int .i64 0,.int .i64 0,.string ⟨#[]⟩]):=⟨Tryz.underlying37,info_parts kr,rfl,by decide⟩
theorem ER: ElT Tryz.prog 54 37 1 24 (.slice none 0 0):=⟨Tryz.underlying54,info_parts kr,rfl,by decide⟩
theorem bsN(x y:Int)(w:World): (Instr.buildSlice 29 2 #[(0,.int .u32 x),(1,.int .u32 y)]).run Tryz.prog w=.ok (.slice (some ⟨w.heap.size,0,none⟩) 2 2) (w.alloc (.cells #[.int .u32 x,.int .u32 y] 110)):=kr
open Go.RowKit Pl Go.Wk
attribute [local irreducible] WC WL QX WD WDB
variable {l:List UInt32}{c k m n:Nat}{A:Option Addr}{a b:UInt32}{u v:Value}{w:World}
def Nc(l:List UInt32): List Value:=l.map λc=>.int .u32 (c.toNat:Int)
theorem Xjw(l:List UInt32): (Nc l).length=l.length:=by simp [Nc]
theorem Zf(h:k<l.length): (Nc l)[k]?=some (.int .u32 ((l.getD k 0).toNat:Int)):=by simp [Nc,List.getD,List.getElem?_eq_getElem h]
theorem Xjv(l:List UInt32)(k:Nat): (Nc l).take k=Nc (l.take k):=by simp [Nc]
theorem Jll(l:List UInt32): ∀ u∈Nc l,u.oneCell'=true:=by
 intro u o;simp [Nc]at o;obtain ⟨c,_,rfl⟩:=o;rfl
def NatV(w:World)(v:Value)(n:Nat): Prop:=∃ A c,v=.slice A (Jj n).length c/\(Jj n).length<=c/\(Jj n).length<=4611686018427387904/\Rd w 1 A (Jj n).length (Nc (Jj n))
theorem NatV.ext{w w':World}{v:Value}{n:Nat}(h:NatV w v n)(hx:Ext w w'): NatV w' v n:=by
 obtain ⟨A,c,G,C,u,o⟩:=h;exact ⟨A,c,G,C,u,o.ext hx⟩
theorem NatV.nil(w:World): NatV w (.slice none 0 0) 0:=⟨none,0,by rw [limbs_0];rfl,by rw [limbs_0];simp,by rw [limbs_0];simp,by rw [limbs_0];exact Rd.nil⟩
theorem Jcq: ∀ l:List UInt32,Xb l=l.take (Xb l).length
 | []=>rfl
 | c::l=>by
  simp only [Xb];split
  .rfl
  .rw [List.length_cons,List.take_succ_cons,<-Jcq l]
theorem Jnj(l:List UInt32): (Xb l).length<=l.length:=by
 have:=congrArg List.length (Jcq l);rw [List.length_take]at this;omega
theorem Jql(hr:Rd w 1 A l.length (Nc l))(hm:l.length<=4611686018427387904): NatV w (.slice A (Jj (val l)).length (Jj (val l)).length) (val l):=by
 have h:=hr.take (m:=(Xb l).length) (Jnj l);rw [Nat.mul_one,Xjv,<-Jcq]at h;have:=Jnj l;rw [<-Ky];exact ⟨A,(Xb l).length,by rw [<-Ky],by rw [<-Ky];exact Nat.le_refl _,by rw [<-Ky];omega,by rw [<-Ky];exact h⟩
theorem Ig(hr:Rd w 1 A l.length (Nc l))(hc:l.length<=c)(hm:l.length<=4611686018427387904):
  Ret Tryz.prog 52 [.slice A l.length c] w λv w'=>v=.slice A (Jj (val l)).length (Jj (val l)).length/\w'=w:=by
 refine Jz Tryz.func52 Tryz.ntmps52 rfl kr rfl ?_;refine ρ ?_;have J:∀ k,k<=l.length->Xb (l.take k)=Xb l->Xb (l.take k)=l.take k->k=(Jj (val l)).length:=λk G h1 h2=>by
  rw [<-Ky,<-h1,h2,List.length_take];omega
 refine Qh (λk=>[(0,.slice A l.length c),(3,.int .i64 ((k:Nat):Int))]) (λk w'=>w'=w/\k<=l.length/\Xb (l.take k)=Xb l) (λk=>k) l.length sB ⟨rfl,Nat.le_refl _,by rw [List.take_length]⟩ ?_;rintro k w' ⟨rfl,G,hn⟩;have done:∀ k,k=(Jj (val l)).length->k<=l.length->(Value.slice A k k)=.slice A (Jj (val l)).length (Jj (val l)).length:=λk h _=>by rw [h]
 refine ρ ?_;refine ki 8 (λh=>?_) (λh=>?_)
 .have Z:0<k:=by have:=oT h;omega
  have o:k-1<l.length:=om
  have C:l.take k=l.take (k-1)++[l.getD (k-1) 0]:=by
   have e:=List.take_succ_eq_append_getElem o;rw [show k-1+1=k by omega]at e;rw [e];simp [List.getD,List.getElem?_eq_getElem o]
  refine ρ ?_;refine ix (k-1) hr o ?_;refine ρ ?_;refine ld (hr.cell (Zf o)) ?_;refine ρ ?_;refine ci (λh0=>?_) (λh0=>?_)
  .have O:l.getD (k-1) 0=0:=by
    have:=Xd h0;apply UInt32.toNat_inj.1
    show (l.getD (k-1) 0).toNat=0;omega
   refine ρ ?_;refine Qv (k-1) sO ⟨rfl,om,?_⟩ om;rw [<-hn,C,O,Jnh]
  .have O:l.getD (k-1) 0≠0:=by
    have:=Xf h0;intro e;rw [e]at this;exact this rfl
   have u:=J k G hn (by rw [C];exact Qyp _ O);refine ρ ?_;refine Jww Jqk 0 k k A k k rfl rfl rfl rfl rfl ⟨_,_,rfl,rfl⟩ ⟨_,_,rfl,rfl⟩ (.inr (by simp)) (Nat.zero_le _) (Nat.le_refl _) om (cut0 A _ _) rfl rfl rfl ?_;refine ρ ?_;exact Jq ⟨done k u G,rfl⟩
 .have U:k=0:=by have:=oF h;omega
  subst U;have u:=J 0 G hn rfl;refine ρ ?_;refine Jww Jqk 0 0 0 A 0 0 rfl rfl rfl rfl rfl ⟨_,_,rfl,rfl⟩ ⟨_,_,rfl,rfl⟩ (.inr (by simp)) (Nat.zero_le _) (Nat.le_refl _) om (cut0 A _ _) rfl rfl rfl ?_;refine ρ ?_;exact Jq ⟨done 0 u G,rfl⟩
theorem Uz(h:NatV w v n): Ret Tryz.prog 52 [v] w λv' w'=>(∃ A,v'=.slice A (Jj n).length (Jj n).length/\Rd w 1 A (Jj n).length (Nc (Jj n)))/\w'=w:=by
 obtain ⟨A,c,rfl,C,u,o⟩:=h;refine (Ig o C u).mono ?_;rintro v w' ⟨rfl,rfl⟩;rw [Zg];exact ⟨⟨A,rfl,o⟩,rfl⟩
theorem Ux(n:Nat): IntKind.u32.wrap (n:Int)=((UInt32.ofNat n).toNat:Int):=by
 rw [UInt32.toNat_ofNat',IntKind.wrap_u32];omega
theorem Jnf(n:Nat): IntKind.u32.wrap ((n:Int).fdiv (2^min (32:Int).toNat IntKind.u64.bits))=((UInt32.ofNat (n / 4294967296)).toNat:Int):=by
 have e:(2:Int)^min (32:Int).toNat IntKind.u64.bits=((4294967296:Nat):Int):=by decide
 rw [e,Int.fdiv_eq_ediv_of_nonneg _ (Int.natCast_nonneg _),UInt32.toNat_ofNat',IntKind.wrap_u32];omega
theorem Jmx(n:Nat)(h:n<18446744073709551616): val [UInt32.ofNat n,UInt32.ofNat (n / 4294967296)]=n:=by
 simp only [val,UInt32.toNat_ofNat'];omega
theorem Qhm(n:Nat)(h:n<18446744073709551616)(w:World): Ret Tryz.prog 16 [.int .u64 (n:Int)] w λv w'=>NatV w' v n/\Ext w w':=by
 refine Jz Tryz.func16 Tryz.ntmps16 rfl kr rfl ?_;refine ρ ?_;refine Yd rfl rfl (by decide) rfl ?_;refine ρ ?_;refine bsl (bsN _ _) ?_;intro G b u J o;rw [Ux,Jnf]at o;have C:Rd G 1 (some ⟨b,0,none⟩) 2 (Nc [UInt32.ofNat n,UInt32.ofNat (n / 4294967296)]):=o.rd rfl;refine ρ ?_;refine cl (Ig (l:=[UInt32.ofNat n,UInt32.ofNat (n / 4294967296)]) (c:=2) C (Nat.le_refl _) (by simp)) ?_;rintro v O ⟨rfl,rfl⟩;have:=Jql C (by simp);rw [Jmx n h]at this ⊢;refine ρ ?_;exact Jq ⟨this,u⟩
def sgn(a b:Int): Int:=if a<b then -1 else if b<a then 1 else 0
theorem Qjr(x:Int)(w:World): Ret Tryz.prog 103 [.int .i64 x] w λv w'=>v=.bool false/\w'=w:=by
 refine Jz Tryz.func103 Tryz.ntmps103 rfl kr rfl ?_;refine ρ ?_;refine Jq ⟨?_,rfl⟩;simp
theorem Qxm(x y:Int)(w:World): Ret Tryz.prog 54 [.int .i64 x,.int .i64 y] w λv w'=>v=.int .i64 (sgn x y)/\w'=w:=by
 refine Jz Tryz.func54 Tryz.ntmps54 rfl kr rfl ?_;refine ρ ?_;refine cl (Qjr x w) ?_;rintro v w' ⟨rfl,rfl⟩;refine ρ ?_;refine cl (Qjr y w') ?_;rintro v u ⟨rfl,rfl⟩;refine ρ ?_;refine ci (λh=>?_) (λh=>?_)
 .refine ρ ?_;refine Jq ⟨?_,rfl⟩;rw [sgn,if_pos (oT h)]
 .refine ρ ?_;refine ci (λo=>?_) (λo=>?_)
  .refine ρ ?_;refine Jq ⟨?_,rfl⟩;rw [sgn,if_neg (oF h),if_pos (oT o)]
  .refine ρ ?_;refine Jq ⟨?_,rfl⟩;rw [sgn,if_neg (oF h),if_neg (oF o)]
theorem Qjq(x:Int)(w:World): Ret Tryz.prog 104 [.int .u32 x] w λv w'=>v=.bool false/\w'=w:=by
 refine Jz Tryz.func104 Tryz.ntmps104 rfl kr rfl ?_;refine ρ ?_;refine Jq ⟨?_,rfl⟩;simp
theorem Qps(x y:Int)(w:World): Ret Tryz.prog 55 [.int .u32 x,.int .u32 y] w λv w'=>v=.int .i64 (sgn x y)/\w'=w:=by
 refine Jz Tryz.func55 Tryz.ntmps55 rfl kr rfl ?_;refine ρ ?_;refine cl (Qjq x w) ?_;rintro v w' ⟨rfl,rfl⟩;refine ρ ?_;refine cl (Qjq y w') ?_;rintro v u ⟨rfl,rfl⟩;refine ρ ?_;refine ci (λh=>?_) (λh=>?_)
 .refine ρ ?_;refine Jq ⟨?_,rfl⟩;rw [sgn,if_pos (oT h)]
 .refine ρ ?_;refine ci (λo=>?_) (λo=>?_)
  .refine ρ ?_;refine Jq ⟨?_,rfl⟩;rw [sgn,if_neg (oF h),if_pos (oT o)]
  .refine ρ ?_;refine Jq ⟨?_,rfl⟩;rw [sgn,if_neg (oF h),if_neg (oF o)]
theorem Qjs(x:Int)(w:World): Ret Tryz.prog 171 [.int .i64 x] w λv w'=>v=.bool false/\w'=w:=by
 refine Jz Tryz.func171 Tryz.ntmps171 rfl kr rfl ?_;refine ρ ?_;refine Jq ⟨?_,rfl⟩;simp
theorem Qpt(x y:Int)(w:World): Ret Tryz.prog 148 [.int .i64 x,.int .i64 y] w λv w'=>v=.int .i64 (sgn x y)/\w'=w:=by
 refine Jz Tryz.func148 Tryz.ntmps148 rfl kr rfl ?_;refine ρ ?_;refine cl (Qjs x w) ?_;rintro v w' ⟨rfl,rfl⟩;refine ρ ?_;refine cl (Qjs y w') ?_;rintro v u ⟨rfl,rfl⟩;refine ρ ?_;refine ci (λh=>?_) (λh=>?_)
 .refine ρ ?_;refine Jq ⟨?_,rfl⟩;rw [sgn,if_pos (oT h)]
 .refine ρ ?_;refine ci (λo=>?_) (λo=>?_)
  .refine ρ ?_;refine Jq ⟨?_,rfl⟩;rw [sgn,if_neg (oF h),if_pos (oT o)]
  .refine ρ ?_;refine Jq ⟨?_,rfl⟩;rw [sgn,if_neg (oF h),if_neg (oF o)]
theorem Jpp(n m:Nat): sgn (n:Int) (m:Int)=Ve n m:=by
 unfold sgn Ve;by_cases h:n<m
 .rw [if_pos om,if_pos h]
 .rw [if_neg om,if_neg h];by_cases h2:m<n
  .rw [if_pos om,if_pos h2]
  .rw [if_neg om,if_neg h2]
theorem Qym(h:((a.toNat:Int) != (b.toNat:Int))=false): a=b:=by
 have:(a.toNat:Int)=b.toNat:=by simpa using h
 apply UInt32.toNat_inj.1;omega
theorem Qyl(h:((a.toNat:Int) != (b.toNat:Int))=true): a.toNat≠b.toNat:=by
 intro e;rw [e]at h;simp at h
theorem Jjj(hv:NatV w v n)(hu:NatV w u m): Ret Tryz.prog 18 [v,u] w λr w'=>r=.int .i64 (Ve n m)/\Ext w w':=by
 have a6:=hv;have a7:=hu;obtain ⟨_,_,_,_,aa,_⟩:=a6;obtain ⟨_,_,_,_,ab,_⟩:=a7;refine Jz Tryz.func18 Tryz.ntmps18 rfl kr rfl ?_;refine ρ ?_;refine cl (Uz hv) ?_;rintro v' w' ⟨⟨A,rfl,ha⟩,rfl⟩;refine ρ ?_;refine cl (Uz hu) ?_;rintro u' a5 ⟨⟨B,rfl,hb⟩,rfl⟩;refine ρ ?_;refine ci (λh=>?_) (λh=>?_)
 .refine ρ ?_;refine cl (Qxm _ _ _) ?_;rintro t w1 ⟨rfl,rfl⟩;refine ρ ?_;refine Jq ⟨?_,Ext.refl _⟩;rw [Jpp];have U:(Jj n).length≠(Jj m).length:=by intro e;rw [e]at h;simp at h
  unfold Ve;rcases Nat.lt_or_gt_of_ne U with h1|h1
  .rw [if_pos h1,if_pos (Jfv h1)]
  .have:=Jfv h1;rw [if_neg om,if_pos h1,if_neg om,if_pos this]
 .have J:(Jj n).length=(Jj m).length:=by
   have:((Jj n).length:Int)=(Jj m).length:=by simpa using h
   omega
  refine ρ ?_;refine Qh (λk=>[(0,.slice A (Jj n).length (Jj n).length),(1,.slice B (Jj m).length (Jj m).length),(5,.int .i64 ((k:Nat)-1:Int))]) (λk w'=>Ext a5 w'/\k<=(Jj n).length/\(Jj n).drop k=(Jj m).drop k) (λk=>k) (Jj n).length sB
   ⟨Ext.refl _,Nat.le_refl _,by rw [List.drop_length,J,List.drop_length]⟩ ?_
  rintro k w1 ⟨hx,hk,hd⟩;refine ρ ?_;refine ci (λh=>?_) (λh=>?_)
  .have a9:0<k:=by have:=oT h;omega
   have C:k-1<(Jj n).length:=om
   have o:k-1<(Jj m).length:=om
   have O:=hx.trans ((Ext.refl w1).drew);have a4:=ha.ext O;have a2:=hb.ext O;refine ρ ?_;refine dr [(0,0),(0,1),(0,2),(0,3),(0,4),(0,5),(0,6),(0,7),(0,8)] kr ?_;refine ρd ?_;refine dix (k-1) a4 C ?_;refine ρd ?_;refine dld (a4.cell (Zf C)) ?_;refine ρd ?_;refine dix (k-1) a2 o ?_;refine ρd ?_;refine dld (a2.cell (Zf o)) ?_;refine ρd ?_;refine ρ ?_;refine ci (λh=>?_) (λh=>?_)
   .have U:=Qyl h;have G:=O.trans ((Ext.refl w1.drew).drew);have a3:=ha.ext G;have a1:=hb.ext G;refine ρ ?_;refine dr [(0,0),(0,1),(0,2),(0,3),(0,4),(0,5),(0,6),(0,7),(1,8),(0,9)] kr ?_;refine ρd ?_;refine dix (k-1) a3 C ?_;refine ρd ?_;refine dld (a3.cell (Zf C)) ?_;refine ρd ?_;refine dix (k-1) a1 o ?_;refine ρd ?_;refine dld (a1.cell (Zf o)) ?_;refine ρd ?_;refine dcl (Qps _ _ _) ?_;rintro t w2 ⟨rfl,rfl⟩;refine ⟨Ext.refl _,?_⟩;refine ρd ?_;refine ρ ?_;refine Jq ⟨?_,G⟩;rw [Jpp];unfold Ve;have Z:(Jj n).drop (k-1+1)=(Jj m).drop (k-1+1):=by rw [show k-1+1=k by omega];exact hd
    rcases Nat.lt_or_gt_of_ne U with h1|h1
    .have:=Jmz C J Z h1;rw [Zg,Zg]at this;rw [if_pos h1,if_pos this]
    .have:=Jmz o J.symm Z.symm h1;rw [Zg,Zg]at this;rw [if_neg om,if_pos h1,if_neg om,if_pos this]
   .have he:=Qym h;refine ρ ?_;refine Qv (k-1) sO ⟨O,om,?_⟩ om;rw [List.drop_eq_getElem_cons C,List.drop_eq_getElem_cons o,show k-1+1=k by omega,hd];congr 1
    have e1:(Jj n).getD (k-1) 0=(Jj n)[k-1]:=by simp [List.getD,List.getElem?_eq_getElem C]
    have e2:(Jj m).getD (k-1) 0=(Jj m)[k-1]:=by simp [List.getD,List.getElem?_eq_getElem o]
    rw [<-e1,<-e2,he]
  .have a8:k=0:=by have:=oF h;omega
   subst a8;have:n=m:=by rw [<-Zg n,<-Zg m];exact congrArg val hd
   subst this;refine ρ ?_;refine Jq ⟨?_,hx⟩;simp [Ve]
end Go.Proofs.YtebcagekopgdhaaGreatDoor
namespace Go.Wk
open Go.RowKit
variable {c e m t t2:Nat}
section
variable {P:Program} {n:Nat} {al:AL} {w:World} {Q:Exit->Act->World->Prop} {ops:Array Oper} {rest:List Oper}
variable {d ty:Nat} {op:Op} {pos:String} {aft:Array Edge} {tt:TT}
theorem Ir[h:Tab P tt]{x:Operand}{k:TK}{A:Option Addr}(kk:WL P n ops Q rest ((d,.bool A.isNone)::al) w)(ht:tk tt t=some k:=by rfl)(hk:k.desc=.slice e:=by rfl)(hx:ev al x=some (.slice A m c):=by rfl)(hd:Nat.blt d n=true:=by rfl): WL P n ops Q (⟨some d,.binOp .eql t x (.const (.slice none 0 0)) t2,ty,pos,aft,none⟩::rest) al w :=
 wop hd (λa u=>by
  have o:=(Kg h.ok ht hk rfl).1;have C:a.eval (.const (.slice none 0 0))=.slice none 0 0:=rfl;simp [execOp,u.ev hx,C,eqGuard,binOp,run_equal_slice_nil w t e A m c o]) kk
end
end Go.Wk
namespace Go.Proofs.YtebcagekopgdhaaGreatDoor
open Go.RowKit Pl Go.Wk
attribute [local irreducible] WC WL QX WD WDB
variable {cs:List Value}{c n:Nat}{A:Option Addr}{w:World}
theorem EB: ElT Tryz.prog 24 4 1 1 (.bool false):=⟨Tryz.underlying24,info_parts kr,rfl,by decide⟩
theorem EI: ElT Tryz.prog 44 3 1 8 (.int .i64 0):=⟨Tryz.underlying44,info_parts kr,rfl,by decide⟩
theorem Qzv(w:World): (Instr.buildSlice 24 0 #[]).run Tryz.prog w=.ok (.slice (some ⟨w.heap.size,0,none⟩) 0 0) (w.alloc (.cells ([]:List Value).toArray 4)):=kr
theorem Xjx(hr:Rd w 1 A n cs)(h1:∀ u∈cs,u.oneCell'=true)(hb:n*1<=140737488355328):
  Ret Tryz.prog 118 [.slice A n c] w λv w'=>(∃ A' c',v=.slice A' n c'/\n<=c'/\Rd w' 1 A' n cs)/\Ext w w':=by
 refine Jz Tryz.func118 Tryz.ntmps118 rfl kr rfl ?_;refine ρ ?_;refine Ir ?_;refine ρ ?_;refine ci (λh=>?_) (λh=>?_)
 .have Z:A=none:=by simpa using h
  subst Z;have hn:n=0:=by
   rcases Nat.eq_zero_or_pos n with h0|h0
   .exact h0
   .obtain ⟨ad,h2,_⟩:=hr.isome h0 om;cases h2
  subst hn;refine ρ ?_;exact Jq ⟨⟨none,0,rfl,Nat.le_refl _,hr⟩,Ext.refl w⟩
 .refine ρ ?_;refine bsl Qzv ?_;intro w1 b C U O;refine ρ ?_;refine apo C EB (O.own (n:=0) U rfl (Nat.zero_le _)) (hr.ext C) h1 (by unfold maxLen;omega) om ?_;intro v2 w2 o J _ _;obtain ⟨A2,c2,rfl,G,_⟩:=Jy o;refine ρ ?_;rw [Nat.zero_add]at o G ⊢;exact Jq ⟨⟨A2,c2,rfl,G,Rd.own o⟩,J⟩
theorem Qrt(hr:Rd w 1 A n cs)(h1:∀ u∈cs,u.oneCell'=true)(hb:n*1<=140737488355328):
  Ret Tryz.prog 118 [.slice A n c] w λv w'=>(∃ A' c',v=.slice A' n c'/\n<=c'/\Rd w' 1 A' n cs/\∀ ad,A'=some ad->w.heap.size<=ad.block)/\Ext w w':=by
 refine Jz Tryz.func118 Tryz.ntmps118 rfl kr rfl ?_;refine ρ ?_;refine Ir ?_;refine ρ ?_;refine ci (λh=>?_) (λh=>?_)
 .have hA:A=none:=by simpa using h
  subst hA;have hn:n=0:=by
   rcases Nat.eq_zero_or_pos n with h0|h0
   .exact h0
   .obtain ⟨ad,h2,_⟩:=hr.isome h0 om;cases h2
  subst hn;refine ρ ?_;exact Jq ⟨⟨none,0,rfl,Nat.le_refl _,hr,λad e=>by cases e⟩,Ext.refl w⟩
 .refine ρ ?_;refine bsl Qzv ?_;intro w1 b C U O;refine ρ ?_;refine apo C EB (O.own (n:=0) U rfl (Nat.zero_le _)) (hr.ext C) h1 (by unfold maxLen;omega) om ?_;intro v2 w2 o J _ _;obtain ⟨A2,c2,rfl,G,Z⟩:=Jy o;refine ρ ?_;rw [Nat.zero_add]at o G ⊢;exact Jq ⟨⟨A2,c2,rfl,G,Rd.own o,λad e=>by subst e;exact (Z ad.block rfl).1⟩,J⟩
theorem Jjs(w:World): (Instr.buildSlice 37 0 #[]).run Tryz.prog w=.ok (.slice (some ⟨w.heap.size,0,none⟩) 0 0) (w.alloc (.cells ([]:List Value).toArray 47)):=kr
theorem Qzt(w:World): (Instr.buildSlice 29 0 #[]).run Tryz.prog w=.ok (.slice (some ⟨w.heap.size,0,none⟩) 0 0) (w.alloc (.cells ([]:List Value).toArray 110)):=kr
theorem Qrs(hr:Rd w 1 A n cs)(h1:∀ u∈cs,u.oneCell'=true)(hb:n*4<=140737488355328):
  Ret Tryz.prog 89 [.slice A n c] w λv w'=>(∃ A' c',v=.slice A' n c'/\n<=c'/\Rd w' 1 A' n cs)/\Ext w w':=by
 refine Jz Tryz.func89 Tryz.ntmps89 rfl kr rfl ?_;refine ρ ?_;refine Ir ?_;refine ρ ?_;refine ci (λh=>?_) (λh=>?_)
 .have Z:A=none:=by simpa using h
  subst Z;have hn:n=0:=by
   rcases Nat.eq_zero_or_pos n with h0|h0
   .exact h0
   .obtain ⟨ad,h2,_⟩:=hr.isome h0 om;cases h2
  subst hn;refine ρ ?_;exact Jq ⟨⟨none,0,rfl,Nat.le_refl _,hr⟩,Ext.refl w⟩
 .refine ρ ?_;refine bsl Qzt ?_;intro w1 b C U O;refine ρ ?_;refine apo C EN (O.own (n:=0) U rfl (Nat.zero_le _)) (hr.ext C) h1 (by unfold maxLen;omega) om ?_;intro v2 w2 o J _ _;obtain ⟨A2,c2,rfl,G,_⟩:=Jy o;refine ρ ?_;rw [Nat.zero_add]at o G ⊢;exact Jq ⟨⟨A2,c2,rfl,G,Rd.own o⟩,J⟩
open Go.RowKit Pl Go.Wk
open Go.RowKit Pl Go.Wk
variable {a b os:List UInt32}{c i m n s x y:Nat}{u v:Value}{w:World}
theorem Yp(z:Value)(n:Nat): (madeCells #[z] n).toList=List.replicate n z:=by
 unfold madeCells;apply List.ext_getElem
 .simp
 .intro i u o;simp [Nat.mod_one]
theorem Jlk(n:Nat): List.replicate n (Value.int .u32 0)=Nc (List.replicate n 0):=by simp [Nc]
theorem Jzm(l:List UInt32)(i:Nat)(c:UInt32): (Nc l).set i (.int .u32 (c.toNat:Int))=Nc (l.set i c):=by simp [Nc,List.map_set]
theorem Xjk(hx:x<4294967296)(hc:c<=1): IntKind.u64.wrap ((c:Int)+IntKind.u64.wrap (x:Int))=((c+x:Nat):Int):=by
 simp only [IntKind.wrap_u64];omega
theorem Jdd(n:Nat): (n:Int).fdiv (2^min (32:Int).toNat IntKind.u64.bits)=((n / 4294967296:Nat):Int):=by
 have e:(2:Int)^min (32:Int).toNat IntKind.u64.bits=((4294967296:Nat):Int):=by decide
 rw [e,Int.fdiv_eq_ediv_of_nonneg _ (Int.natCast_nonneg _)];omega
def AddInv(a b:List UInt32)(i c:Nat)(os:List UInt32): Prop:=os.length=i/\c<=1/\val os+4294967296^i*c=val (a.take i)+val (b.take i)
theorem Jqh: val (a.take (i+1))=val (a.take i)+4294967296^i*(a.getD i 0).toNat:=by
 rcases Nat.lt_or_ge i a.length with h|h
 .have o:a.take (i+1)=a.take i++[a.getD i 0]:=by
   rw [List.take_succ_eq_append_getElem h];simp [List.getD,List.getElem?_eq_getElem h]
  rw [o,Ic,List.length_take,Nat.min_eq_left om];simp [val]
 .rw [List.take_of_length_le om,List.take_of_length_le h];have:a.getD i 0=0:=by simp [List.getD,List.getElem?_eq_none h]
  rw [this];simp
theorem AddInv.step(h:AddInv a b i c os)(hs:s=c+(a.getD i 0).toNat+(b.getD i 0).toNat): AddInv a b (i+1) (s / 4294967296) (os++[UInt32.ofNat s]):=by
 obtain ⟨o,J,G⟩:=h;have C:(a.getD i 0).toNat<4294967296:=(a.getD i 0).toNat_lt;have u:(b.getD i 0).toNat<4294967296:=(b.getD i 0).toNat_lt;refine ⟨by simp [o],om,?_⟩;rw [Ic,o,Jqh,Jqh];simp only [val,UInt32.toNat_ofNat'];have e:4294967296^(i+1)*(s / 4294967296)=4294967296^i*(4294967296*(s / 4294967296)):=by rw [Nat.pow_succ,Nat.mul_assoc]
 rw [e];have U:4294967296^i*(s % 2^32+4294967296*0)+4294967296^i*(4294967296*(s / 4294967296))=4294967296^i*s:=by
  rw [<-Nat.mul_add];congr 1;omega
 have O:4294967296^i*s=4294967296^i*c+4294967296^i*(a.getD i 0).toNat+4294967296^i*(b.getD i 0).toNat:=by
  rw [hs,Nat.mul_add,Nat.mul_add]
 omega
theorem Jdf(os:List UInt32)(r:Nat)(c:UInt32): (os++List.replicate (r+1) 0).set os.length c=(os++[c])++List.replicate r 0:=by
 rw [List.set_append_right _ _ (Nat.le_refl _)];simp [List.replicate_succ]
theorem Xjj(hs:s<9223372036854775808)(hy:y<4294967296): IntKind.u64.wrap ((s:Int)+IntKind.u64.wrap (y:Int))=((s+y:Nat):Int):=by
 simp only [IntKind.wrap_u64];omega
abbrev Xr(w:World)(base:Nat)(v:Value)(l:List UInt32): Prop:=w.ownsRow base 110 1 v l.length (Nc l)
def Fresh(w:World)(v:Value): Prop:=∀ ad n c,v=.slice (some ad) n c->w.heap.size<=ad.block
theorem Km(hv:NatV w v n)(hu:NatV w u m)(hln:(Jj n).length<=1000)(hlm:(Jj m).length<=1000): Ret Tryz.prog 14 [v,u] w λr w'=>NatV w' r (n+m)/\Fresh w r/\Ext w w':=by
 refine Jz Tryz.func14 Tryz.ntmps14 rfl kr rfl ?_;refine ρ ?_;refine cl (Uz hv) ?_;rintro v' w' ⟨⟨A,rfl,ha⟩,rfl⟩;refine ρ ?_;refine cl (Uz hu) ?_;rintro u' a3 ⟨⟨B,rfl,hb⟩,rfl⟩;refine ρ ?_;refine Xt (λs:(Option Addr×Nat)×(Option Addr×Nat)=>[(0,.slice s.1.1 (Jj s.1.2).length (Jj s.1.2).length),(1,.slice s.2.1 (Jj s.2.2).length (Jj s.2.2).length)])
  (λs w'=>w'=a3/\(Jj s.2.2).length<=(Jj s.1.2).length/\s.1.2+s.2.2=n+m/\Rd a3 1 s.1.1 (Jj s.1.2).length (Nc (Jj s.1.2))/\Rd a3 1 s.2.1 (Jj s.2.2).length (Nc (Jj s.2.2))/\(Jj s.1.2).length<=1000) ?_ ?_
 .refine ci (λh=>?_) (λh=>?_)
  .refine ρ ?_;exact Jf ((B,m),(A,n)) sB ⟨rfl,by have:=oT h;simp only;omega,Nat.add_comm _ _,hb,ha,hlm⟩
  .refine ρ ?_;exact Jf ((A,n),(B,m)) sB ⟨rfl,by have:=oF h;simp only;omega,rfl,ha,hb,hln⟩
 rintro ⟨⟨A,x⟩,⟨B,y⟩⟩ w' ⟨rfl,ak,a1,ha,hb,hl⟩;simp only at ak a1 ha hb hl;generalize hL:(Jj x).length=L at *
 refine ρ ?_;refine mkn EN (L+1) om (by unfold maxLen;omega) ?_;intro w1 O ag aa hO;have a9:Xr w1 w'.heap.size (.slice O (L+1) (L+1)) ([]++List.replicate (L+1) 0):=by
  have e:(madeCells (Value.int .u32 0).cells ((L+1)*1)).toList=Nc (List.replicate (L+1) 0):=by rw [Nat.mul_one,<-Jlk];exact Yp _ _
  rw [e]at aa;rw [Xr,List.nil_append,List.length_replicate];exact aa
 refine ρ ?_;refine Xm (fun (k c:Nat) (o:List UInt32)=>[(0,.slice A L L),(1,.slice B (Jj y).length (Jj y).length),(5,.slice O (L+1) (L+1)),(6,.int .u64 (c:Int)),(24,.int .i64 (L:Int)),(25,.int .i64 (k:Int))])
  (λk c o w2=>Ext w' w2/\k<=L/\AddInv (Jj x) (Jj y) k c o/\Xr w2 w'.heap.size (.slice O (L+1) (L+1)) (o++List.replicate (L+1-k) 0)) (λk _ _=>L-k) 0 0 [] sB
  ⟨ag,Nat.zero_le _,⟨rfl,om,rfl⟩,a9⟩ ?_
 rintro k c o w2 ⟨Z,hk,hI,a5⟩;have a8:=hI.1;have ap:=hI.2.1;have ac:=ha.ext Z;have ab:=hb.ext Z;refine ρ ?_;refine ci (λh=>?_) (λh=>?_)
 .have aj:k<L:=by have:=oT h;omega
  have ai:((Jj x).getD k 0).toNat<4294967296:=((Jj x).getD k 0).toNat_lt;have ah:((Jj y).getD k 0).toNat<4294967296:=((Jj y).getD k 0).toNat_lt;have C:(o++List.replicate (L+1-k) (0:UInt32)).length=L+1:=by simp;omega
  have store:∀ s:Nat,w2.cell? (adr O k)=(Nc (o++List.replicate (L+1-k) 0))[k]?/\w2.frozen? (adr O k)=false /\
    Xr (w2.setCell (adr O k) (.int .u32 ((UInt32.ofNat s).toNat:Int))) w'.heap.size (.slice O (L+1) (L+1)) ((o++[UInt32.ofNat s])++List.replicate (L+1-(k+1)) 0)/\Ext w' (w2.setCell (adr O k) (.int .u32 ((UInt32.ofNat s).toNat:Int))):=λs=>by
   have J:=a5;rw [Xr,C]at J;obtain ⟨s1,s2,U,s4,s5⟩:=Zl J (q:=k) om (.int .u32 ((UInt32.ofNat s).toNat:Int));refine ⟨s1,s2,?_,Z.setCell s4 _⟩;rw [Jzm,show L+1-k=(L-k)+1 by omega]at U;have e:=Jdf o (L-k) (UInt32.ofNat s);rw [a8]at e;rw [e]at U;rw [Xr,show L+1-(k+1)=L-k by omega];have e2:((o++[UInt32.ofNat s])++List.replicate (L-k) (0:UInt32)).length=L+1:=by simp;omega
   rw [e2];exact U
  have G:(Nc (o++List.replicate (L+1-k) 0))[k]?=some (.int .u32 (((o++List.replicate (L+1-k) 0).getD k 0).toNat:Int)):=Zf (by rw [C];omega);have a6:Rd w2 1 O (L+1) (Nc (o++List.replicate (L+1-k) 0)):=by have h5:=a5;rw [Xr,C]at h5;exact Rd.own h5
  refine ρ ?_;refine ix k ac aj ?_;refine ρ ?_;refine ld (ac.cell (Zf (show k<(Jj x).length by omega))) ?_;refine ρ ?_;rw [Xjk ai ap];refine ci (λh=>?_) (λh=>?_)
  .have a2:k<(Jj y).length:=by have:=oT h;omega
   refine ρ ?_;refine ix k ab a2 ?_;refine ρ ?_;refine ld (ab.cell (Zf a2)) ?_;refine ρ ?_;refine ix k a6 om ?_;obtain ⟨s1,s2,U,s4⟩:=store (c+((Jj x).getD k 0).toNat+((Jj y).getD k 0).toNat);rw [Xjj om ah,Ux];refine sto (s1.trans G) s2 ?_;refine ρ ?_;refine Yd rfl rfl (by decide) rfl ?_;refine ρ ?_;refine Qt (k+1) ((c+((Jj x).getD k 0).toNat+((Jj y).getD k 0).toNat) / 4294967296) (o++[UInt32.ofNat (c+((Jj x).getD k 0).toNat+((Jj y).getD k 0).toNat)]) ?_ ⟨s4,om,hI.step rfl,U⟩ om;rw [Jdd];exact sB
  .have ao:(Jj y).length<=k:=by have:=oF h;omega
   have ae:(Jj y).getD k 0=0:=by simp [List.getD,List.getElem?_eq_none ao]
   refine ρ ?_;refine ix k a6 om ?_;obtain ⟨s1,s2,U,s4⟩:=store (c+((Jj x).getD k 0).toNat);rw [Ux];refine sto (s1.trans G) s2 ?_;refine ρ ?_;refine Yd rfl rfl (by decide) rfl ?_;refine ρ ?_;refine Qt (k+1) ((c+((Jj x).getD k 0).toNat) / 4294967296) (o++[UInt32.ofNat (c+((Jj x).getD k 0).toNat)]) ?_ ⟨s4,om,hI.step (by rw [ae];rfl),U⟩ om;rw [Jdd];exact sB
 .have an:k=L:=by have:=oF h;omega
  subst an;have C:(o++List.replicate (k+1-k) (0:UInt32)).length=k+1:=by simp;omega
  have J:=a5;rw [Xr,C]at J;have G:(Nc (o++List.replicate (k+1-k) 0))[k]?=some (.int .u32 (((o++List.replicate (k+1-k) 0).getD k 0).toNat:Int)):=Zf (by rw [C];omega);obtain ⟨s1,s2,U,s4,s5⟩:=Zl J (q:=k) om (.int .u32 ((UInt32.ofNat c).toNat:Int));rw [Jzm,show k+1-k=0+1 by omega]at U;have e:=Jdf o 0 (UInt32.ofNat c);rw [a8,List.replicate_zero,List.append_nil]at e;rw [e]at U;have af:=Z.setCell s4 (.int .u32 ((UInt32.ofNat c).toNat:Int));refine ρ ?_;refine ix k (Rd.own J) om ?_;rw [Ux];refine sto (s1.trans G) s2 ?_;refine ρ ?_;have am:(o++[UInt32.ofNat c]).length=k+1:=by simp;omega
  have a4:=Rd.own U;have a7:val (o++[UInt32.ofNat c])=n+m:=by
   obtain ⟨i1,i2,i3⟩:=hI;rw [Ic,i1];simp only [val,UInt32.toNat_ofNat'];rw [<-a1,<-Zg x,<-Zg y,<-List.take_of_length_le (show (Jj x).length<=k by omega),<-List.take_of_length_le (show (Jj y).length<=k by omega),<-i3,show c % 2^32+4294967296*0=c by omega]
  rw [<-am]at a4 ⊢;refine cl (Ig a4 (Nat.le_refl _) om) ?_;rintro t w4 ⟨rfl,rfl⟩;have:=Jql a4 om;rw [a7]at this ⊢;refine ρ ?_;exact Jq ⟨this,λad _ _ e=>hO ad (by injection e),af⟩
theorem Jtj(hv:NatV w v n)(hu:NatV w u m)(hln:(Jj n).length<=1000)(hlm:(Jj m).length<=1000): Ret Tryz.prog 14 [v,u] w λr w'=>NatV w' r (n+m)/\Ext w w' :=
 (Km hv hu hln hlm).mono λ_ _ h=>⟨h.1,h.2.2⟩
open Go.RowKit Pl Go.Wk
variable {a b os:List UInt32}{c i m n s x y:Nat}{u v:Value}{w:World}
def dif(x c y:Nat): Nat:=(18446744073709551616+x-c-y) % 18446744073709551616
theorem Qbs(hx:x<4294967296)(hc:c<=1): IntKind.u64.wrap (IntKind.u64.wrap (x:Int)-(c:Int))=(dif x c 0:Int):=by
 unfold dif;simp only [IntKind.wrap_u64];omega
theorem Qbr(hx:x<4294967296)(hc:c<=1)(hy:y<4294967296): IntKind.u64.wrap ((dif x c 0:Int)-IntKind.u64.wrap (y:Int))=(dif x c y:Int):=by
 unfold dif;simp only [IntKind.wrap_u64];omega
theorem Jpm(n:Nat): (n:Int).fdiv (2^min (63:Int).toNat IntKind.u64.bits)=((n / 9223372036854775808:Nat):Int):=by
 have e:(2:Int)^min (63:Int).toNat IntKind.u64.bits=((9223372036854775808:Nat):Int):=by decide
 rw [e,Int.fdiv_eq_ediv_of_nonneg _ (Int.natCast_nonneg _)];omega
theorem Qpm(hx:x<4294967296)(hc:c<=1)(hy:y<4294967296): dif x c y % 4294967296+y+c=x+4294967296*(dif x c y / 9223372036854775808)/\dif x c y / 9223372036854775808<=1:=by
 unfold dif;omega
def SubInv(a b:List UInt32)(i c:Nat)(os:List UInt32): Prop:=os.length=i/\c<=1/\val os+val (b.take i)=val (a.take i)+4294967296^i*c
theorem SubInv.step(h:SubInv a b i c os)(hs:s=dif (a.getD i 0).toNat c (b.getD i 0).toNat):
  SubInv a b (i+1) (s / 9223372036854775808) (os++[UInt32.ofNat s]):=by
 obtain ⟨C,O,Z⟩:=h;have J:(a.getD i 0).toNat<4294967296:=(a.getD i 0).toNat_lt;have G:(b.getD i 0).toNat<4294967296:=(b.getD i 0).toNat_lt;obtain ⟨u,o⟩:=Qpm J O G;rw [<-hs]at u o;refine ⟨by simp [C],o,?_⟩;rw [Ic,C,Jqh,Jqh];simp only [val,UInt32.toNat_ofNat'];have e:4294967296^(i+1)*(s / 9223372036854775808)=4294967296^i*(4294967296*(s / 9223372036854775808)):=by rw [Nat.pow_succ,Nat.mul_assoc]
 have U:s % 2^32+4294967296*0=s % 4294967296:=om
 rw [e,U];have e3:4294967296^i*(s % 4294967296)+4294967296^i*(b.getD i 0).toNat+4294967296^i*c=4294967296^i*(a.getD i 0).toNat+4294967296^i*(4294967296*(s / 9223372036854775808)):=by
  rw [<-Nat.mul_add,<-Nat.mul_add,<-Nat.mul_add,u]
 omega
theorem Jth(hv:NatV w v n)(hu:NatV w u m)(hln:(Jj n).length<=1000):
  Ret Tryz.prog 67 [v,u] w λr w'=>(∃ x,r=.tuple #[x,.int .i64 (if n<m then 19 else 0)]/\NatV w' x (n-m)/\Fresh w x)/\Ext w w':=by
 refine Jz Tryz.func67 Tryz.ntmps67 rfl kr rfl ?_;refine ρ ?_;refine cl (Uz hv) ?_;rintro v' w' ⟨⟨A,rfl,ha⟩,rfl⟩;refine ρ ?_;refine cl (Uz hu) ?_;rintro u' ar ⟨⟨B,rfl,hb⟩,rfl⟩;have am:(Jj m).length<=4611686018427387904:=by obtain ⟨_,_,_,_,h,_⟩:=hu;exact h
 refine ρ ?_;refine cl (Jjj (n:=n) (m:=m) ⟨A,_,rfl,Nat.le_refl _,om,ha⟩ ⟨B,_,rfl,Nat.le_refl _,am,hb⟩) ?_;rintro t w' ⟨rfl,C⟩;refine ρ ?_;refine ci (λh=>?_) (λh=>?_)
 .have a4:n<m:=by
   have:=oT h;unfold Ve at this;rcases Nat.lt_or_ge n m with h1|h1
   .exact h1
   .rw [if_neg om]at this;split at this<;>omega
  refine ρ ?_;refine Yw ⟨⟨.slice none 0 0,?_,?_,λad _ _ e=>by cases e⟩,C⟩
  .rw [if_pos a4]
  .rw [show n-m=0 by omega];exact NatV.nil _
 have ae:m<=n:=by
  have:=oF h;unfold Ve at this;rcases Nat.lt_or_ge n m with h1|h1
  .rw [if_pos h1]at this;omega
  .exact h1
 have au:(Jj m).length<=(Jj n).length:=by
  rcases Nat.lt_or_ge (Jj n).length (Jj m).length with h1|h1
  .have:=Jfv h1;omega
  .exact h1
 have ap:=ha.ext C;have ao:=hb.ext C;generalize hL:(Jj n).length=L at *
 refine ρ ?_;refine mkn EN L om (by unfold maxLen;omega) ?_;intro w1 O a6 ab hO;have aq:=C.trans a6;have aj:=C.size;have aa:Xr w1 w'.heap.size (.slice O L L) ([]++List.replicate L 0):=by
  have e:(madeCells (Value.int .u32 0).cells (L*1)).toList=Nc (List.replicate L 0):=by rw [Nat.mul_one,<-Jlk];exact Yp _ _
  rw [e]at ab;rw [Xr,List.nil_append,List.length_replicate];exact ab
 refine ρ ?_;refine Xm (fun (k c:Nat) (o:List UInt32)=>[(0,.slice A L L),(1,.slice B (Jj m).length (Jj m).length),(6,.slice O L L),(7,.int .u64 (c:Int)),(22,.int .i64 (L:Int)),(23,.int .i64 (k:Int))])
  (λk c o U=>Ext w' U/\k<=L/\SubInv (Jj n) (Jj m) k c o/\Xr U w'.heap.size (.slice O L L) (o++List.replicate (L-k) 0)) (λk _ _=>L-k) 0 0 [] sB
  ⟨a6,Nat.zero_le _,⟨rfl,om,rfl⟩,aa⟩ ?_
 rintro k c o U ⟨Z,hk,hI,a3⟩;have a1:=hI.1;have af:=hI.2.1;have ah:=ap.ext Z;have ag:=ao.ext Z;refine ρ ?_;refine ci (λh=>?_) (λh=>?_)
 .have a4:k<L:=by have:=oT h;omega
  have ac:((Jj n).getD k 0).toNat<4294967296:=((Jj n).getD k 0).toNat_lt;have ak:((Jj m).getD k 0).toNat<4294967296:=((Jj m).getD k 0).toNat_lt;have G:(o++List.replicate (L-k) (0:UInt32)).length=L:=by simp;omega
  have store:∀ s:Nat,U.cell? (adr O k)=(Nc (o++List.replicate (L-k) 0))[k]?/\U.frozen? (adr O k)=false /\
    Xr (U.setCell (adr O k) (.int .u32 ((UInt32.ofNat s).toNat:Int))) w'.heap.size (.slice O L L) ((o++[UInt32.ofNat s])++List.replicate (L-(k+1)) 0)/\Ext w' (U.setCell (adr O k) (.int .u32 ((UInt32.ofNat s).toNat:Int))):=λs=>by
   have a9:=a3;rw [Xr,G]at a9;obtain ⟨s1,s2,s3,s4,s5⟩:=Zl a9 (q:=k) om (.int .u32 ((UInt32.ofNat s).toNat:Int));refine ⟨s1,s2,?_,Z.setCell s4 _⟩;rw [Jzm,show L-k=(L-(k+1))+1 by omega]at s3;have e:=Jdf o (L-(k+1)) (UInt32.ofNat s);rw [a1]at e;rw [e]at s3;have e2:((o++[UInt32.ofNat s])++List.replicate (L-(k+1)) (0:UInt32)).length=L:=by simp;omega
   rw [Xr,e2];exact s3
  have J:(Nc (o++List.replicate (L-k) 0))[k]?=some (.int .u32 (((o++List.replicate (L-k) 0).getD k 0).toNat:Int)):=Zf (by rw [G];omega);have a5:Rd U 1 O L (Nc (o++List.replicate (L-k) 0)):=by have h5:=a3;rw [Xr,G]at h5;exact Rd.own h5
  refine ρ ?_;refine ix k ah a4 ?_;refine ρ ?_;refine ld (ah.cell (Zf (show k<(Jj n).length by omega))) ?_;refine ρ ?_;rw [Qbs ac af];refine ci (λh=>?_) (λh=>?_)
  .have a2:k<(Jj m).length:=by have:=oT h;omega
   refine ρ ?_;refine ix k ag a2 ?_;refine ρ ?_;refine ld (ag.cell (Zf a2)) ?_;refine ρ ?_;refine ix k a5 om ?_;obtain ⟨s1,s2,s3,s4⟩:=store (dif ((Jj n).getD k 0).toNat c ((Jj m).getD k 0).toNat);rw [Qbr ac af ak,Ux];refine sto (s1.trans J) s2 ?_;refine ρ ?_;refine Yd rfl rfl (by decide) rfl ?_;refine ρ ?_;refine Qt (k+1) (dif ((Jj n).getD k 0).toNat c ((Jj m).getD k 0).toNat / 9223372036854775808) (o++[UInt32.ofNat (dif ((Jj n).getD k 0).toNat c ((Jj m).getD k 0).toNat)]) ?_ ⟨s4,om,hI.step rfl,s3⟩ om;rw [Jpm];exact sB
  .have ae:(Jj m).length<=k:=by have:=oF h;omega
   have ai:(Jj m).getD k 0=0:=by simp [List.getD,List.getElem?_eq_none ae]
   refine ρ ?_;refine ix k a5 om ?_;obtain ⟨s1,s2,s3,s4⟩:=store (dif ((Jj n).getD k 0).toNat c 0);rw [Ux];refine sto (s1.trans J) s2 ?_;refine ρ ?_;refine Yd rfl rfl (by decide) rfl ?_;refine ρ ?_;refine Qt (k+1) (dif ((Jj n).getD k 0).toNat c 0 / 9223372036854775808) (o++[UInt32.ofNat (dif ((Jj n).getD k 0).toNat c 0)]) ?_ ⟨s4,om,hI.step (by rw [ai];rfl),s3⟩ om;rw [Jpm];exact sB
 .have an:k=L:=by have:=oF h;omega
  subst an;have a8:Rd U 1 O o.length (Nc o):=by
   have:=Rd.own (show U.ownsRow w'.heap.size 110 1 (.slice O k k) k (Nc o) by
    have h5:=a3;rw [Xr,Nat.sub_self,List.replicate_zero,List.append_nil,a1]at h5;exact h5)
   rw [a1];exact this
  have a7:val o=n-m:=by
   obtain ⟨i1,i2,i3⟩:=hI;rw [List.take_of_length_le (show (Jj n).length<=k by omega),List.take_of_length_le (show (Jj m).length<=k by omega),Zg,Zg]at i3;have hv:=Jcn o;rw [i1]at hv;rcases Nat.eq_zero_or_pos c with h0|h0
   .subst h0;omega
   .have:c=1:=om
    subst this;omega
  refine ρ ?_;rw [<-a1];refine cl (Ig a8 (Nat.le_refl _) om) ?_;rintro t w4 ⟨rfl,rfl⟩;have:=Jql a8 om;rw [a7]at this ⊢;refine ρ ?_;refine Yw ⟨⟨_,?_,this,λad _ _ e=>nL aj (hO ad (by injection e))⟩,C.trans Z⟩;rw [if_neg om]
theorem Qhl(hv:NatV w v n)(hu:NatV w u m)(hln:(Jj n).length<=1000):
  Ret Tryz.prog 67 [v,u] w λr w'=>(∃ x,r=.tuple #[x,.int .i64 (if n<m then 19 else 0)]/\NatV w' x (n-m))/\Ext w w' :=
 (Jth hv hu hln).mono λ_ _ ⟨⟨x,G,C,_⟩,o⟩=>⟨⟨x,G,C⟩,o⟩
end Go.Proofs.YtebcagekopgdhaaGreatDoor
namespace Go.Proofs.YtebcagekopgdhaaGreatDoor
namespace Pl
structure V where
 kind: Int
 num:Int
 str:ByteArray
def V.bytes(v:V): List UInt8:=v.str.data.toList
def V.cells(v:V): List Value:=[.int .i64 v.kind,.int .i64 v.num,.string v.str]
def V.val(v:V): Value:=.agg #[.int .i64 v.kind,.int .i64 v.num,.string v.str]
end Pl
open Go.RowKit Pl Go.Wk
attribute [local irreducible] WC WL QX WD WDB
def V0: V:=⟨0,0,⟨#[]⟩⟩
def Jm(r:List V): List Value:=r.flatMap V.cells
abbrev RdR(w:World)(A:Option Addr)(r:List V): Prop:=Rd w 3 A r.length (Jm r)
abbrev RdB(w:World)(A:Option Addr)(ds:List Bool): Prop:=Rd w 1 A ds.length (ds.map Value.bool)
theorem Jrj(r:List V): (Jm r).length=r.length*3:=by
 induction r with
 | nil=>rfl
 | cons v r ih=>simp only [Jm,List.flatMap_cons,List.length_append,V.cells,List.length_cons,List.length_nil]at ih ⊢;omega
theorem Jdv: ∀ (r:List V) (i j:Nat),i<r.length->j<3->(Jm r)[i*3+j]?=(r.getD i V0).cells[j]?
 | [],i,j,h,_=>by simp at h
 | v::r,0,j,_,hj=>by
  simp only [Jm,List.flatMap_cons,Nat.zero_mul,Nat.zero_add,List.getD_cons_zero];rw [List.getElem?_append_left (by simp [V.cells];omega)]
 | v::r,i+1,j,h,hj=>by
  have ih:=Jdv r i j (by simpa using h) hj;simp only [Jm,List.flatMap_cons,List.getD_cons_succ]at ih ⊢;rw [List.getElem?_append_right (by simp [V.cells];omega),<-ih];congr 1
  simp [V.cells];omega
theorem RdR.cell{w:World}{A:Option Addr}{r:List V}(h:RdR w A r){i j:Nat}{u:Value}(hi:i<r.length)(hu:(r.getD i V0).cells[j]?=some u): w.cell? ((adr A (i*3)).add j)=some u:=by
 have o:j<3:=by have:=(List.getElem?_eq_some_iff.1 hu).1;simpa [V.cells] using this
 rw [Xh];exact Rd.cell h (by rw [Jdv r i j hi o];exact hu)
theorem RdB.cell{w:World}{A:Option Addr}{ds:List Bool}(h:RdB w A ds){i:Nat}(hi:i<ds.length): w.cell? (adr A i)=some (.bool (ds.getD i false)) :=
 Rd.cell h (by simp [List.getElem?_eq_getElem hi])
theorem Qnd{r:List V}{i:Nat}(h:i<r.length): r.getD i V0∈r:=by simp [List.getD,List.getElem?_eq_getElem h]
theorem V.one(v:V): ∀ u∈v.cells,u.oneCell'=true:=by
 intro u o;simp [V.cells]at o;rcases o with rfl|rfl|rfl<;>rfl
theorem Jvq(r:List V): ∀ u∈Jm r,u.oneCell'=true:=by
 intro u C;obtain ⟨v,_,o⟩:=List.mem_flatMap.1 C;simp [V.cells]at o;rcases o with rfl|rfl|rfl<;>rfl
theorem Qdd(a b:List V): Jm (a++b)=Jm a++Jm b:=by simp [Jm]
def cmpV(a b:V): Int:=if a.kind≠b.kind then sgn a.kind b.kind else if a.num≠b.num then sgn a.num b.num else Lib.compareBytes a.bytes b.bytes
def neg(d:Bool)(c:Int): Int:=if d then -c else c
def Jw: List V->List V->List Bool->Int
 | [],[],_=>0
 | [],_::_,_=>-1
 | _::_,[],_=>1
 | x::a,y::b,ds=>if cmpV x y=0 then Jw a b (ds.drop 1) else neg (ds.getD 0 false) (cmpV x y)
theorem Qpv(a b:ByteArray)(w:World): Ret Tryz.prog 172 [.string a,.string b] w λv w'=>v=.int .i64 (Lib.compareBytes a.data.toList b.data.toList)/\w'=w:=by
 refine Jz Tryz.func172 Tryz.ntmps172 rfl kr rfl ?_;refine ρ ?_;refine wext (vs:=[.string a,.string b]) (v:=.int .i64 (Lib.compareBytes a.data.toList b.data.toList)) (w':=w) ?_ ?_
 .rw [run_callFunc_extern Tryz.func193 kr kr kr (e:=Extern.BytealgCompare.compare) kr,Lib.run_compareString];rfl
 refine ρ ?_;exact Jq ⟨rfl,rfl⟩
theorem Qbt(a b:ByteArray)(w:World): Ret Tryz.prog 149 [.string a,.string b] w λv w'=>v=.int .i64 (Lib.compareBytes a.data.toList b.data.toList)/\w'=w:=by
 refine Jz Tryz.func149 Tryz.ntmps149 rfl kr rfl ?_;refine ρ ?_;refine cl (Qpv a b w) ?_;rintro v w' ⟨rfl,rfl⟩;refine ρ ?_;exact Jq ⟨rfl,rfl⟩
theorem Jqg(a b:V)(w:World): Ret Tryz.prog 95 [a.val,b.val] w λr w'=>r=.int .i64 (cmpV a b)/\Ext w w':=by
 refine Jz Tryz.func95 Tryz.ntmps95 rfl kr rfl ?_;refine ρ ?_;refine bx ?_;intro w1 b1 J a1 o;refine ρ ?_;refine bx ?_;intro w2 b2 C Z u;have o:=o.ext C;have O:=J.trans C;refine ρ ?_;refine ld (o.at rfl) ?_;refine ρ ?_;refine ld (u.at rfl) ?_;refine ρ ?_;refine ci (λG=>?_) (λG=>?_)
 .refine ρ ?_;refine ld (o.at rfl) ?_;refine ρ ?_;refine ld (u.at rfl) ?_;refine ρ ?_;refine cl (Qxm _ _ _) ?_;rintro t U ⟨rfl,rfl⟩;refine ρ ?_;refine Jq ⟨?_,O⟩;rw [cmpV,if_pos (by simpa using G)]
 .refine ρ ?_;refine ld (o.at rfl) ?_;refine ρ ?_;refine ld (u.at rfl) ?_;refine ρ ?_;refine ci (λhn=>?_) (λhn=>?_)
  .refine ρ ?_;refine ld (o.at rfl) ?_;refine ρ ?_;refine ld (u.at rfl) ?_;refine ρ ?_;refine cl (Qpt _ _ _) ?_;rintro t U ⟨rfl,rfl⟩;refine ρ ?_;refine Jq ⟨?_,O⟩;rw [cmpV,if_neg (by simpa using G),if_pos (by simpa using hn)]
  .refine ρ ?_;refine ld (o.at rfl) ?_;refine ρ ?_;refine ld (u.at rfl) ?_;refine ρ ?_;refine cl (Qbt _ _ _) ?_;rintro t U ⟨rfl,rfl⟩;refine ρ ?_;refine Jq ⟨?_,O⟩;rw [cmpV,if_neg (by simpa using G),if_neg (by simpa using hn)];rfl
end Go.Proofs.YtebcagekopgdhaaGreatDoor
