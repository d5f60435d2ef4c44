/- Part 4. -/
import Derived.Test.YtebcagekopgdhaaGreatDoorB03
set_option linter.unusedVariables false
set_option maxRecDepth 100000
set_option maxHeartbeats 40000000
namespace Go.Wk
open Go.RowKit
section
variable {P:Program} {n:Nat} {al:AL} {w:World} {Q:Exit->Act->World->Prop} {ops:Array Oper} {rest:List Oper}
variable {d ty:Nat} {op:Op} {pos:String} {aft:Array Edge} {tt:TT}
theorem Qcj{base e sz m c j:Nat}{A:Option Addr}{xs cs:List Value}(ho:w.ownsRow base e sz (.slice A m c) m xs)(hj:j<m)(hl:cs.length=sz)(h1:∀ u∈cs,u.oneCell'=true):
  ∃ w',(storeCells (adr A (j*sz)) cs).run P w=.ok () w'/\w'.ownsRow base e sz (.slice A m c) m (xs.take (j*sz)++cs++xs.drop (j*sz+sz))/\w.grownBy w' (Value.slice A m c).ownBlock:=by
 rcases ho.2 with ⟨_,h0⟩|⟨g,cap,cur,hv,hb,hg,hc,hcm,hcs,ht⟩
 .omega
 injection hv with G _ e3
 subst G;subst e3;have O:j*sz+sz<=m*sz:=by have:=nO sz hj;rw [Nat.succ_mul]at this;exact this
 have J:m*sz<=c*sz:=nO _ hc;have U:adr (some ⟨g,0,none⟩) (j*sz)=⟨g,j*sz,none⟩:=by simp [adr,Vg]
 rw [U];have o:=run_storeCells_at (P:=P) g (j*sz) e cs 0 cur w hg om h1;simp only [Nat.add_zero]at o;refine ⟨_,o,⟨?_,.inr ⟨g,c,_,rfl,hb,setRow_heap w g cur _ e (0,0) hg,hc,hcm,?_,?_⟩⟩,?_⟩
 .have:=ho.1;simp only [List.length_append,List.length_take,List.length_drop];omega
 .simp only [List.size_toArray,List.length_append,List.length_take,List.length_drop,Array.length_toList,hcs,hl];omega
 .simp only;have C:(cur.toList.take (j*sz)++cs).length=j*sz+sz:=by rw [List.length_append,List.length_take,Array.length_toList,hcs,hl];omega
  rw [List.take_append,C];have G:(cur.toList.take (j*sz)++cs).take (m*sz)=cur.toList.take (j*sz)++cs:=List.take_of_length_le om;rw [G,<-ht,List.take_take,Nat.min_eq_left om,List.drop_take,hl]
 .have:=Il w g (cur.toList.take (j*sz)++cs++cur.toList.drop (j*sz+cs.length)).toArray;exact this
theorem stoE[h:Tab P tt]{x y:Operand}{t e base sz m c j:Nat}{A:Option Addr}{k:TK}{xs cs:List Value}(ho:w.ownsRow base e sz (.slice A m c) m xs)(hj:j<m)(kk:∀ w1,w1.ownsRow base e sz (.slice A m c) m (xs.take (j*sz)++cs++xs.drop (j*sz+sz))->w.grownBy w1 (Value.slice A m c).ownBlock->WL P n ops Q rest al w1)(h1:∀ u∈cs,u.oneCell'=true)(ht:tk tt t=some k:=by rfl)(hk:k.desc=.invalid:=by rfl)(hs:k.size=sz:=by rfl)(hl:cs.length=sz:=by rfl)(hx:ev al x=some (.pointer (some (adr A (j*sz)))):=by rfl)(hy:ev al y=some (.agg cs.toArray):=by rfl):
  WL P n ops Q (⟨none,.store t x y,ty,pos,aft,none⟩::rest) al w:=by
 obtain ⟨w',C,G,J⟩:=Qcj (P:=P) ho hj hl h1;refine Kp (λa O=>?_) (kk w' G J);have o:=Ze w (Jjp h.ok ht hk w).2;simp [execOp,O.ev hx,O.ev hy,Instr.storeAt,Instr.sureAddr,storeVar,Value.cells,o,hs,hl,C]
end
end Go.Wk
namespace Go.Wk
open Go.RowKit
section
variable {P:Program} {n:Nat} {al:AL} {w:World} {Q:Exit->Act->World->Prop} {ops:Array Oper} {rest:List Oper} {drest:List (Nat×Oper)}
variable {d ty:Nat} {op:Op} {pos:String} {aft:Array Edge} {tt:TT}
def toE(P:Program)(ops:Array Oper)(Q:Exit->Act->World->Prop)(w0:World)(rest:List (Nat×Oper)): Exit->Act->World->Prop
 | .normal,a,w=>Ext w0 w/\Qc P ops Q rest a w
 | _,_,_=>False
theorem Uz{w0:World}(hx:Ext w0 w)(h:WD P n ops Q drest al w): QX n (toE P ops Q w0 drest) .normal al w:=λa o=>⟨hx,h a o⟩
theorem Uk{o:Oper}(h:WL P n ops (toE P ops Q w drest) [o] al w): WD P n ops Q ((1,o)::drest) al w:=λa J=>by
 have u:=h a J;unfold wpList at u;unfold Qc wk1;simp only;have C:¬ LetsOut (toE P ops Q w drest):=by rintro ⟨a,w,h⟩;exact h
 split
 .rename_i hw;simp only [hw,if_true]at u;rcases u with u|⟨_,u⟩
  .refine Oper.wp_mono (K:=wpList P ops (toE P ops Q w drest) []) (λU w' O=>O) ?_;unfold Oper.wp at u ⊢;exact Yq (Q:=toE P ops Q w drest) (λc a w G=>G.elim) (λG=>absurd G C) u
  .exact absurd u C
 .rename_i hw;simp only [hw]at u;exact u.2
theorem Qvs(hT:TOk P tt){t t2:TypeId}{k:TK}{x y:Operand}{p q:Bool}(ht:tk tt t=some k)(hk:k.desc=.bool){a:Act}(ha:Fr n al a)(hx:ev al x=some (.bool p))(hy:ev al y=some (.bool q))(dst:Option Nat)(w:World):
  (execOp a.eval ⟨dst,.binOp .eql t x y t2,ty,pos,aft,none⟩).run P w=.ok (.value (.bool (p == q))) w:=by
 have o:=Vw hT ht hk rfl;have h:∀ d:Nat,(Op.equalIn (d+1) t (.bool p) (.bool q)).run P w=.ok (p == q) w:=λd=>by simp [Op.equalIn,run_underlying o]
 simp [execOp,ha.ev hx,ha.ev hy,eqGuard,binOp,Op.equal,Op.maxDepth,h 9999]
theorem eqb[h:Tab P tt]{t t2:TypeId}{k:TK}{x y:Operand}{p q:Bool}(kk:WL P n ops Q rest ((d,.bool (p == q))::al) w)(ht:tk tt t=some k:=by rfl)(hk:k.desc=.bool:=by rfl)(hx:ev al x=some (.bool p):=by rfl)(hy:ev al y=some (.bool q):=by rfl)(hd:Nat.blt d n=true:=by rfl):
  WL P n ops Q (⟨some d,.binOp .eql t x y t2,ty,pos,aft,none⟩::rest) al w:=wop hd (λa o=>Qvs h.ok ht hk o hx hy (some d) w) kk
theorem dbsl{t:Nat}{len:Nat}{parts:Array (Nat×Operand)}{vs:List Value}{e:Nat}{cs:List Value}{pw:Array (Nat×Value)}(hb:∀ w:World,(Instr.buildSlice t len pw).run P w=.ok (.slice (some ⟨w.heap.size,0,none⟩) len len) (w.alloc (.cells cs.toArray e)))(kk:∀ w1 b,Ext w w1->w.heap.size<=b->Blk w1 b e cs->WD P n ops Q drest ((d,.slice (some ⟨b,0,none⟩) len len)::al) w1)(hx:evs al (parts.toList.map (·.2))=some vs:=by rfl)(hp:((parts.toList.map (·.1)).zip vs).toArray=pw:=by rfl)(hd:Nat.blt d n=true:=by rfl):
  WD P n ops Q ((1,⟨some d,.buildSlice t len parts,ty,pos,aft,none⟩)::drest) al w :=
 Uk (bsl hb (λw1 b o C u=>Jh (Uz o (kk w1 b o C u))) hx hp hd)
end
end Go.Wk
namespace Go.Wk
open Go.RowKit
section
variable {P:Program} {ops:Array Oper} {Q:Exit->Act->World->Prop}
def noT: Nat->Bool:=λ_=>false
theorem Qwp: Gk ops noT=true:=by simp [Gk,noT]
def Kn(ops:Array Oper): List (Nat×Nat)->Array Bool->Option (Array Bool)
 | [],listed=>some listed
 | (0,i)::r,listed=>if (Region.ready .any ops listed).contains i && Region.free .any ops listed i && Nat.blt i ops.size then Kn ops r (listed.setIfInBounds i true) else none
 | (1,i)::r,listed=>if (Region.ready .any ops listed == [i]) && Nat.blt i ops.size then Kn ops r (listed.setIfInBounds i true) else none
 | _::_,_=>none
def toK(P:Program)(ops:Array Oper)(Q:Exit->Act->World->Prop)(fuel:Nat)(listed:Array Bool): Exit->Act->World->Prop
 | .normal,a,w=>Yp P ops Q noT fuel listed a w
 | _,_,_=>False
theorem Qrl{fuel:Nat}{listed:Array Bool}{o:Oper}{a:Act}{w:World}{K:Act->World->Prop}(h:o.wp P a w K (QF (toK P ops Q fuel listed))): o.wp P a w K (QF Q):=by
 unfold Oper.wp at h ⊢;have u:¬ LetsOut (QF (toK P ops Q fuel listed)):=by rintro ⟨a,w,h⟩;exact h
 exact Yq (Q:=QF (toK P ops Q fuel listed)) (λc a w C=>C.elim) (λC=>absurd C u) h
theorem Jks(hsel:Region.noSelect ops=true)(fuel:Nat)(listed':Array Bool): ∀ (s:List (Nat×Nat)) (listed:Array Bool) (a:Act) (w:World),Kn ops s listed=some listed'->Qc P ops (toK P ops Q fuel listed') (Ja ops.toList s) a w->Yp P ops Q noT (s.length+fuel) listed a w
 | [],listed,a,w,hB,h=>by
  simp only [Kn,Option.some.injEq]at hB;subst hB;simp only [List.length_nil,Nat.zero_add];exact h
 | (0,i)::r,listed,a,w,hB,h=>by
  simp only [Kn]at hB;split at hB
  .rename_i hc;simp only [Bool.and_eq_true]at hc;obtain ⟨⟨hr,hf⟩,hi0⟩:=hc;have hi:i<ops.size:=by (have:i+1<=ops.size:=by simpa [Nat.blt] using hi0);(omega)
   have ho:ops[i]?=some ops[i]:=Array.getElem?_eq_getElem hi;have hn:nth ops.toList i=some ops[i]:=by rw [Xq];simp [hi]
   simp only [Ja,hn,Qc,wk1]at h;obtain ⟨v,hy,h⟩:=h;rw [show ((0,i)::r).length+fuel=(r.length+fuel)+1 by simp;omega];exact Jhg Qwp ho rfl (Region.noSelect_spec hsel) _ listed a w (Region.free_spec ho hf) (by simpa using hr) hy (Jks hsel fuel listed' r _ _ _ hB h)
  .cases hB
 | (1,i)::r,listed,a,w,hB,h=>by
  simp only [Kn]at hB;split at hB
  .rename_i hc;simp only [Bool.and_eq_true,beq_iff_eq]at hc;obtain ⟨hr,hi0⟩:=hc;have hi:i<ops.size:=by (have:i+1<=ops.size:=by simpa [Nat.blt] using hi0);(omega)
   have ho:ops[i]?=some ops[i]:=Array.getElem?_eq_getElem hi;have hn:nth ops.toList i=some ops[i]:=by rw [Xq];simp [hi]
   simp only [Ja,hn,Qc,wk1]at h;rw [show ((1,i)::r).length+fuel=(r.length+fuel)+1 by simp;omega];refine .inr ⟨λh0=>(by rw [hr]at h0;cases h0),λj hj=>?_⟩;rw [hr]at hj;obtain rfl:j=i:=by simpa using hj
   unfold wpOp;simp only [ho];split
   .rename_i hw;simp only [hw,if_true]at h;exact .inl (Oper.wp_mono (λa' w' h'=>⟨h'.1,Jks hsel fuel listed' r _ _ _ hB h'.2⟩) (Qrl h))
   .rename_i hw;simp only [hw]at h;exact ⟨Ext.refl w,Jks hsel fuel listed' r _ _ _ hB h⟩
  .cases hB
 | (k+2,i)::r,listed,a,w,hB,h=>by simp [Kn]at hB
end
section
variable {P:Program} {n:Nat} {al al':AL} {w:World} {Q:Exit->Act->World->Prop} {ops:Array Oper}
def WG(P:Program)(n:Nat)(ops:Array Oper)(Q:Exit->Act->World->Prop)(fuel:Nat)(listed:Array Bool)(al:AL)(w:World): Prop:=∀ a,Fr n al a->Yp P ops Q noT fuel listed a w
theorem WG.sub{fuel:Nat}{listed:Array Bool}(hs:Sub al' al)(h:WG P n ops Q fuel listed al' w): WG P n ops Q fuel listed al w:=λa o=>h a (o.sub hs)
theorem drG{tt:TT}[ht:Tab P tt]{id:Nat}{l:List Oper}(hsel:Region.noSelect l.toArray=true)(h:WG P n l.toArray Q l.toArray.size (Array.replicate l.toArray.size false) al w.drew): WC P n (.region id l.toArray true) Q al w:=λa o=>
 wp_region_any ht.mixed (Jyr (T:=noT) _ _ _ _ (h a o))
theorem Kd{l:List Oper}{fuel fuel':Nat}{listed:Array Bool}(s:List (Nat×Nat))(listed':Array Bool)(hsel:Region.noSelect l.toArray=true)(hB:Kn l.toArray s listed=some listed')(hf:fuel=s.length+fuel')(h:WD P n l.toArray (toK P l.toArray Q fuel' listed') (Ja l s) al w): WG P n l.toArray Q fuel listed al w:=λa o=>by
 subst hf;refine Jks hsel fuel' listed' s listed a w hB ?_;have:=h a o;simpa using this
theorem Kf{fuel:Nat}{listed:Array Bool}(h:WG P n ops Q fuel listed al w): QX n (toK P ops Q fuel listed) .normal al w:=h
theorem gend{listed:Array Bool}(hr:Region.ready .any ops listed=[])(h:QX n Q .normal al w): WG P n ops Q 0 listed al w:=λa o=>⟨hr,h a o⟩
def toJ(P:Program)(ops:Array Oper)(Q:Exit->Act->World->Prop)(w0:World)(fuel:Nat)(listed:Array Bool): Exit->Act->World->Prop
 | .normal,a,w=>Ext w0 w/\Yp P ops Q noT fuel listed a w
 | _,_,_=>False
theorem Jvd{w0:World}{fuel:Nat}{listed:Array Bool}(hx:Ext w0 w)(h:WG P n ops Q fuel listed al w): QX n (toJ P ops Q w0 fuel listed) .normal al w:=λa o=>⟨hx,h a o⟩
theorem Jgv{i:Nat}{o:Oper}{fuel:Nat}{listed:Array Bool}(ho:ops[i]?=some o)(h:WL P n ops (toJ P ops Q w fuel listed) [o] al w): ∀ a,Fr n al a->wpOp P ops (QF Q) i (λa' w'=>Ext w w'/\Yp P ops Q noT fuel listed a' w') a w:=λa J=>by
 have u:=h a J;unfold wpList at u;unfold wpOp;simp only [ho];have C:¬ LetsOut (toJ P ops Q w fuel listed):=by rintro ⟨a,w,h⟩;exact h
 split
 .rename_i hw;simp only [hw,if_true]at u;rcases u with u|⟨_,u⟩
  .left
   refine Oper.wp_mono (K:=wpList P ops (toJ P ops Q w fuel listed) []) (λa' w' O=>O) ?_;unfold Oper.wp at u ⊢;exact Yq (Q:=toJ P ops Q w fuel listed) (λc a w G=>G.elim) (λG=>absurd G C) u
  .exact absurd u C
 .rename_i hw;simp only [hw]at u;exact u
theorem gtwo{l:List Oper}{fuel fuel':Nat}{listed:Array Bool}(i j:Nat){oi oj:Oper}(hr:Region.ready .any l.toArray listed=[i,j])(hf:fuel=fuel'+1)(hi:nth l i=some oi)(hj:nth l j=some oj)(h1:WL P n l.toArray (toJ P l.toArray Q w fuel' (listed.setIfInBounds i true)) [oi] al w)(h2:WL P n l.toArray (toJ P l.toArray Q w fuel' (listed.setIfInBounds j true)) [oj] al w): WG P n l.toArray Q fuel listed al w:=λa u=>by
 subst hf;have G:l.toArray[i]?=some oi:=by rw [<-hi,Xq];simp
 have C:l.toArray[j]?=some oj:=by rw [<-hj,Xq];simp
 refine .inr ⟨λh0=>(by rw [hr]at h0;cases h0),λk o=>?_⟩;rw [hr]at o;simp only [List.mem_cons,List.not_mem_nil,or_false]at o;rcases o with rfl|rfl
 .exact Jgv G h1 a u
 .exact Jgv C h2 a u
theorem gcut{α:Type}{fuel:Nat}{L:Array Bool}(fuel':Nat)(L':Array Bool)(fr:α->AL)(I:α->World->Prop)(h2:∀ x w,I x w->WG P n ops Q fuel' L' (fr x) w)(h1:(∀ x al w,I x w->Sub (fr x) al->WG P n ops Q fuel' L' al w)->WG P n ops Q fuel L al w): WG P n ops Q fuel L al w:=h1 λx al w hi o=>(h2 x w hi).sub o
def lst(m k:Nat): Array Bool:=((List.range m).map λi=>Nat.blt i k).toArray
end
end Go.Wk
namespace Go.Wk
open Go.RowKit
section
variable {P:Program} {ops:Array Oper} {Q:Exit->Act->World->Prop} {T:Nat->Bool}
def Uu(ops:Array Oper)(T:Nat->Bool)(F:Nat): List (Nat×Nat)->Array Bool->Option (Array Bool)
 | [],listed=>some listed
 | (0,i)::r,listed=>if (Region.ready .any ops listed).contains i && Region.free .any ops listed i && Nat.blt i ops.size && !T i && (List.range ops.size).all (λt=>!T t || Up ops F t i) then Uu ops T F r (listed.setIfInBounds i true) else none
 | (1,i)::r,listed=>if (Region.ready .any ops listed == [i]) && Nat.blt i ops.size then Uu ops T F r (listed.setIfInBounds i true) else none
 | (2,i)::r,listed=>if (Region.ready .any ops listed == [i]) && Nat.blt i ops.size && T i then Uu ops T F r (listed.setIfInBounds i true) else none
 | _::_,_=>none
def Ka(P:Program)(ops:Array Oper)(Q:Exit->Act->World->Prop)(T:Nat->Bool)(fuel:Nat)(listed:Array Bool): Exit->Act->World->Prop
 | .normal,a,w=>Closed ops listed->Vk P ops Q T fuel listed a w
 | _,_,_=>False
theorem Qxx{fuel:Nat}{listed:Array Bool}{o:Oper}{a:Act}{w:World}{K:Act->World->Prop}(h:o.wp P a w K (QF (Ka P ops Q T fuel listed))): o.wp P a w K (QF Q):=by
 unfold Oper.wp at h ⊢;have u:¬ LetsOut (QF (Ka P ops Q T fuel listed)):=by rintro ⟨a,w,h⟩;exact h
 exact Yq (Q:=QF (Ka P ops Q T fuel listed)) (λc a w C=>C.elim) (λC=>absurd C u) h
theorem Jjf(hsel:Region.noSelect ops=true)(F fuel:Nat)(listed':Array Bool): ∀ (s:List (Nat×Nat)) (listed:Array Bool) (a:Act) (w:World),Closed ops listed->Uu ops T F s listed=some listed'->Qc P ops (Ka P ops Q T fuel listed') (Ja ops.toList s) a w->Vk P ops Q T (s.length+fuel) listed a w
 | [],listed,a,w,hcl,hB,h=>by
  simp only [Uu,Option.some.injEq]at hB;subst hB;simp only [List.length_nil,Nat.zero_add];exact h hcl
 | (0,i)::r,listed,a,w,hcl,hB,h=>by
  simp only [Uu]at hB;split at hB
  .rename_i hc;simp only [Bool.and_eq_true]at hc;obtain ⟨⟨⟨⟨hr,hf⟩,hi0⟩,hTi⟩,hre⟩:=hc;have hi:i<ops.size:=by (have:i+1<=ops.size:=by simpa [Nat.blt] using hi0);(omega)
   have ho:ops[i]?=some ops[i]:=Array.getElem?_eq_getElem hi;have hn:nth ops.toList i=some ops[i]:=by rw [Xq];simp [hi]
   have hr':i∈Region.ready .any ops listed:=by simpa using hr
   simp only [Ja,hn,Qc,wk1]at h;obtain ⟨v,hy,h⟩:=h;rw [show ((0,i)::r).length+fuel=(r.length+fuel)+1 by simp;omega];refine Jkt Ext Ext.refl Ext.trans ho (Region.noSelect_spec hsel) ?_ _ listed a w hcl (Region.free_spec ho hf) hr' hy (Jjf hsel F fuel listed' r _ _ _ (hcl.step hr') hB h);intro listed2 j hcl2 hri hrj w w' hx;cases hT:T j with
   | false=>exact hx hT
   | true=>
    obtain ⟨_,oj,hoj,_⟩:=mem_ready.1 hrj;have hjl:j<ops.size:=(Array.getElem?_eq_some_iff.1 hoj).1;have h9:=List.all_eq_true.1 hre j (List.mem_range.2 hjl);rw [hT]at h9;have h1:=Jwk hcl2 F j i oj hoj (Jwj hoj hrj) (by simpa using h9);have h0:=(mem_ready.1 hri).1;rcases Nat.lt_or_ge i listed2.size with h'|h'
    .simp [h']at h0 h1;rw [h0]at h1;cases h1
    .simp [Array.getElem?_eq_none h']at h1
  .cases hB
 | (1,i)::r,listed,a,w,hcl,hB,h=>by
  simp only [Uu]at hB;split at hB
  .rename_i hc;simp only [Bool.and_eq_true,beq_iff_eq]at hc;obtain ⟨hr,hi0⟩:=hc;have hi:i<ops.size:=by (have:i+1<=ops.size:=by simpa [Nat.blt] using hi0);(omega)
   have ho:ops[i]?=some ops[i]:=Array.getElem?_eq_getElem hi;have hn:nth ops.toList i=some ops[i]:=by rw [Xq];simp [hi]
   have hcl':Closed ops (listed.setIfInBounds i true):=hcl.step (by rw [hr];exact List.mem_singleton.2 rfl);simp only [Ja,hn,Qc,wk1]at h;rw [show ((1,i)::r).length+fuel=(r.length+fuel)+1 by simp;omega];refine ⟨λh0=>(by rw [hr]at h0;cases h0),λj hj=>?_⟩;rw [hr]at hj;obtain rfl:j=i:=by simpa using hj
   unfold wpOp;simp only [ho];split
   .rename_i hw;simp only [hw,if_true]at h;exact .inl (Oper.wp_mono (λa' w' h'=>⟨λ_=>h'.1,Jjf hsel F fuel listed' r _ _ _ hcl' hB h'.2⟩) (Qxx h))
   .rename_i hw;simp only [hw]at h;exact ⟨λ_=>Ext.refl w,Jjf hsel F fuel listed' r _ _ _ hcl' hB h⟩
  .cases hB
 | (2,i)::r,listed,a,w,hcl,hB,h=>by
  simp only [Uu]at hB;split at hB
  .rename_i hc;simp only [Bool.and_eq_true,beq_iff_eq]at hc;obtain ⟨⟨hr,hi0⟩,hTi⟩:=hc;have hi:i<ops.size:=by (have:i+1<=ops.size:=by simpa [Nat.blt] using hi0);(omega)
   have ho:ops[i]?=some ops[i]:=Array.getElem?_eq_getElem hi;have hn:nth ops.toList i=some ops[i]:=by rw [Xq];simp [hi]
   have hcl':Closed ops (listed.setIfInBounds i true):=hcl.step (by rw [hr];exact List.mem_singleton.2 rfl);simp only [Ja,hn,Qc,wk1]at h;rw [show ((2,i)::r).length+fuel=(r.length+fuel)+1 by simp;omega];refine ⟨λh0=>(by rw [hr]at h0;cases h0),λj hj=>?_⟩;rw [hr]at hj;obtain rfl:j=i:=by simpa using hj
   unfold wpOp;simp only [ho];split
   .rename_i hw;simp only [hw,if_true]at h;exact .inl (Oper.wp_mono (λa' w' h'=>⟨λh0=>(by rw [hTi]at h0;cases h0),Jjf hsel F fuel listed' r _ _ _ hcl' hB h'⟩) (Qxx h))
   .rename_i hw;simp only [hw]at h;exact ⟨λ_=>Ext.refl w,Jjf hsel F fuel listed' r _ _ _ hcl' hB h⟩
  .cases hB
 | (k+3,i)::r,listed,a,w,hcl,hB,h=>by simp [Uu]at hB
end
section
variable {P:Program} {n:Nat} {al al':AL} {w:World} {Q:Exit->Act->World->Prop} {ops:Array Oper} {T:Nat->Bool}
def WH(P:Program)(n:Nat)(ops:Array Oper)(Q:Exit->Act->World->Prop)(T:Nat->Bool)(fuel:Nat)(listed:Array Bool)(al:AL)(w:World): Prop:=Closed ops listed->∀ a,Fr n al a->Vk P ops Q T fuel listed a w
theorem WH.sub{fuel:Nat}{listed:Array Bool}(hs:Sub al' al)(h:WH P n ops Q T fuel listed al' w): WH P n ops Q T fuel listed al w:=λo a u=>h o a (u.sub hs)
theorem Qjm(ops:Array Oper)(m:Nat): Closed ops (Array.replicate m false):=λk o _ u=>by
 exfalso
 rcases Nat.lt_or_ge k m with h|h
 .simp [h]at u
 .simp [Nat.not_lt.2 h]at u
theorem drH{tt:TT}[ht:Tab P tt]{id:Nat}{l:List Oper}(T:Nat->Bool)(h:WH P n l.toArray Q T l.toArray.size (Array.replicate l.toArray.size false) al w.drew): WC P n (.region id l.toArray true) Q al w:=λa o=>
 wp_region_any ht.mixed (Jys (T:=T) _ _ _ _ (h (Qjm _ _) a o))
theorem Zf{l:List Oper}{fuel fuel':Nat}{listed:Array Bool}(F:Nat)(s:List (Nat×Nat))(listed':Array Bool)(hsel:Region.noSelect l.toArray=true)(hB:Uu l.toArray T F s listed=some listed')(hf:fuel=s.length+fuel')(h:WD P n l.toArray (Ka P l.toArray Q T fuel' listed') (Ja l s) al w): WH P n l.toArray Q T fuel listed al w:=λo a u=>by
 subst hf;refine Jjf hsel F fuel' listed' s listed a w o hB ?_;have:=h a u;simpa using this
theorem Xx{fuel:Nat}{listed:Array Bool}(h:WH P n ops Q T fuel listed al w): QX n (Ka P ops Q T fuel listed) .normal al w:=λa u o=>h o a u
theorem hend{listed:Array Bool}(hr:Region.ready .any ops listed=[])(h:QX n Q .normal al w): WH P n ops Q T 0 listed al w:=λ_ a o=>⟨hr,h a o⟩
def Ke(P:Program)(ops:Array Oper)(Q:Exit->Act->World->Prop)(T:Nat->Bool)(w0:World)(fuel:Nat)(listed:Array Bool): Exit->Act->World->Prop
 | .normal,a,w=>Ext w0 w/\(Closed ops listed->Vk P ops Q T fuel listed a w)
 | _,_,_=>False
theorem Ky{w0:World}{fuel:Nat}{listed:Array Bool}(hx:Ext w0 w)(h:WH P n ops Q T fuel listed al w): QX n (Ke P ops Q T w0 fuel listed) .normal al w:=λa u=>⟨hx,λo=>h o a u⟩
theorem Jgt{i:Nat}{o:Oper}{fuel:Nat}{listed:Array Bool}(ho:ops[i]?=some o)(hc:Closed ops listed)(h:WL P n ops (Ke P ops Q T w fuel listed) [o] al w): ∀ a,Fr n al a->wpOp P ops (QF Q) i (λa' w'=>(T i=false->Ext w w')/\Vk P ops Q T fuel listed a' w') a w:=λa O=>by
 have u:=h a O;unfold wpList at u;unfold wpOp;simp only [ho];have C:¬ LetsOut (Ke P ops Q T w fuel listed):=by rintro ⟨a,w,h⟩;exact h
 split
 .rename_i hw;simp only [hw,if_true]at u;rcases u with u|⟨_,u⟩
  .left
   refine Oper.wp_mono (K:=wpList P ops (Ke P ops Q T w fuel listed) []) (λa' w' J=>⟨λ_=>J.1,J.2 hc⟩) ?_;unfold Oper.wp at u ⊢;exact Yq (Q:=Ke P ops Q T w fuel listed) (λc a w G=>G.elim) (λG=>absurd G C) u
  .exact absurd u C
 .rename_i hw;simp only [hw]at u;exact ⟨λ_=>u.1,u.2 hc⟩
theorem htwo{l:List Oper}{fuel fuel':Nat}{listed:Array Bool}(i j:Nat){oi oj:Oper}(hr:Region.ready .any l.toArray listed=[i,j])(hf:fuel=fuel'+1)(hi:nth l i=some oi)(hj:nth l j=some oj)(h1:WL P n l.toArray (Ke P l.toArray Q T w fuel' (listed.setIfInBounds i true)) [oi] al w)(h2:WL P n l.toArray (Ke P l.toArray Q T w fuel' (listed.setIfInBounds j true)) [oj] al w): WH P n l.toArray Q T fuel listed al w:=λC a G=>by
 subst hf;have O:l.toArray[i]?=some oi:=by rw [<-hi,Xq];simp
 have J:l.toArray[j]?=some oj:=by rw [<-hj,Xq];simp
 refine ⟨λh0=>(by rw [hr]at h0;cases h0),λk u=>?_⟩;have o:=u;rw [hr]at u;simp only [List.mem_cons,List.not_mem_nil,or_false]at u;rcases u with rfl|rfl
 .exact Jgt O (C.step o) h1 a G
 .exact Jgt J (C.step o) h2 a G
theorem hlist{fuel:Nat}{listed listed':Array Bool}(e:listed=listed')(h:WH P n ops Q T fuel listed' al w): WH P n ops Q T fuel listed al w:=by subst e;exact h
theorem hcut{α:Type}{fuel:Nat}{L:Array Bool}(fuel':Nat)(L':Array Bool)(fr:α->AL)(I:α->World->Prop)(h2:∀ x w,I x w->WH P n ops Q T fuel' L' (fr x) w)(h1:(∀ x al w,I x w->Sub (fr x) al->WH P n ops Q T fuel' L' al w)->WH P n ops Q T fuel L al w): WH P n ops Q T fuel L al w:=h1 λx al w hi o=>(h2 x w hi).sub o
end
end Go.Wk
namespace Go.Wk
open Go.RowKit
section
variable {P:Program} {n:Nat} {al:AL} {w:World} {Q:Exit->Act->World->Prop} {ops:Array Oper} {rest:List Oper} {drest:List (Nat×Oper)}
variable {d ty:Nat} {op:Op} {pos:String} {aft:Array Edge} {tt:TT}
theorem Qwk(hT:TOk P tt){t m e sz:Nat}{k:TK}(ht:tk tt t=some k)(hk:k.desc=.array m e)(hz:k.esz=sz): P.underlying t=some (.array m e)/\Zc P e=some sz:=by
 have:=hT.at ht;unfold Yb at this;rw [hk]at this;subst hz;exact ⟨this.1,this.2.1⟩
theorem Jbt(hT:TOk P tt){x i:Operand}{t m e:Nat}{k:TK}{p:Addr}{kd:IntKind}{z:Int}(j:Nat)(ht:tk tt t=some k)(hk:k.desc=.array m e)(hlt:j<m){a:Act}(ha:Fr n al a)(hx:ev al x=some (.pointer (some p)))(hi:ev al i=some (.int kd z))(hj:z=(j:Int))(dst:Option Nat)(w:World):
  (execOp a.eval ⟨dst,.indexAddr t x i,ty,pos,aft,none⟩).run P w=.ok (.value (.pointer (some (p.add (j*k.esz))))) w:=by
 obtain ⟨o,u⟩:=Qwk hT ht hk rfl;subst hj;simp [execOp,ha.ev hx,ha.ev hi,Instr.indexAt,asIntOf,run_underlying o,Ze w u,Instr.sureAddr];intro h;omega
theorem Qvr{x y:Operand}{t yt:TypeId}{k1:IntKind}{a b:Int}(h0:b≠0){e:Act}(he:Fr n al e)(hx:ev al x=some (.int k1 a))(hy:ev al y=some (.int k1 b))(dst:Option Nat)(w:World):
  (execOp e.eval ⟨dst,.binOp .rem t x y yt,ty,pos,aft,none⟩).run P w=.ok (.value (.int k1 (a.tmod b))) w:=by
 simp [execOp,he.ev hx,he.ev hy,eqGuard,binOp,Op.intDiv,h0]
theorem rem{x y:Operand}{t yt:TypeId}{k1:IntKind}{a b:Int}(h0:b≠0)(kk:WL P n ops Q rest ((d,.int k1 (a.tmod b))::al) w)(hx:ev al x=some (.int k1 a):=by rfl)(hy:ev al y=some (.int k1 b):=by rfl)(hd:Nat.blt d n=true:=by rfl):
  WL P n ops Q (⟨some d,.binOp .rem t x y yt,ty,pos,aft,none⟩::rest) al w:=wop hd (λe o=>Qvr h0 o hx hy (some d) w) kk
end
end Go.Wk
