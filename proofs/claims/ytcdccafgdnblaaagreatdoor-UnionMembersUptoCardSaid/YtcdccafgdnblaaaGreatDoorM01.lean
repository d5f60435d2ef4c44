/- Part 1. -/
import Derived.Test.YtcdccafgdnblaaaGreatDoorM00
import Derived.Test.YtcdccafgdnblaaaGreatDoorRows
import Derived.IntWalk
import Derived.Laws.Cover3
import Derived.Lib.Bytealg
import Derived.Laws.Bits64b
set_option linter.unusedVariables false
set_option maxRecDepth 100000
set_option maxHeartbeats 40000000
namespace Go.Wk
open Go.RowKit
variable {cs xs:List Value}{base c e j m:Nat}{A:Option Addr}
section
variable {P:Program} {n:Nat} {al:AL} {w:World} {Q:Exit->Act->World->Prop} {ops:Array Oper} {rest:List Oper}
variable {d ty:Nat} {op:Op} {pos:String} {aft:Array Edge} {tt:TT}
theorem Qpj{sz:Nat}(ho:w.ownsRow base e sz (.slice A m c) m xs)(hj:j<m)(hl:cs.length=sz)(h1:∀ u∈cs,u.oneCell'=true):
  ∃ w',(storeCells (adr A (j*sz)) cs).run P w=.ok () w'/\w'.ownsRow base e sz (.slice A m c) m (xs.take (j*sz)++cs++xs.drop (j*sz+sz))/\w.grownBy w' (Value.slice A m c).ownBlock:=by
 rcases ho.2 with⟨_,h0⟩|⟨g,cap,cur,hv,hb,hg,hc,hcm,hcs,ht⟩
 .omega
 injection hv with C _ e3
 subst C;subst e3;have G:j*sz+sz<=m*sz:=by have:=nO sz hj;grind
 have D:m*sz<=c*sz:=nO _ hc;have J:adr (some ⟨g,0,none⟩) (j*sz)=⟨g,j*sz,none⟩:=by simp[adr,Ye]
 rw[J];have i:=run_storeCells_at (P:=P) g (j*sz) e cs 0 cur w hg om h1;simp only[Nat.add_zero]at i;refine⟨_,i,⟨?_,.inr ⟨g,c,_,rfl,hb,setRow_heap w g cur _ e (0,0) hg,hc,hcm,?_,?_⟩⟩,?_⟩
 .grind
 .grind
 .simp only;have o:(cur.toList.take (j*sz)++cs).length=j*sz+sz:=by grind
  rw[List.take_append,o];have C:(cur.toList.take (j*sz)++cs).take (m*sz)=cur.toList.take (j*sz)++cs:=List.take_of_length_le om;rw[C,<-ht,List.take_take,Nat.min_eq_left om,List.drop_take,hl]
 have:=Jqw w g (cur.toList.take (j*sz)++cs++cur.toList.drop (j*sz+cs.length)).toArray;exact this
theorem Jwk[h:Tab P tt]{x y:Operand}{t sz:Nat}{k:TK}(ho:w.ownsRow base e sz (.slice A m c) m xs)(hj:j<m)(kk:∀ w1,w1.ownsRow base e sz (.slice A m c) m (xs.take (j*sz)++cs++xs.drop (j*sz+sz))->w.grownBy w1 (Value.slice A m c).ownBlock->WL P n ops Q rest al w1)(h1:∀ u∈cs,u.oneCell'=true)(ht:tk tt t=some k:=by rfl)(hk:k.desc=.invalid:=by rfl)(hs:k.size=sz:=by rfl)(hl:cs.length=sz:=by rfl)(hx:ev al x=some (.pointer (some (adr A (j*sz)))):=by rfl)(hy:ev al y=some (.agg cs.toArray):=by rfl):
  WL P n ops Q (⟨none,.store t x y,ty,pos,aft,none⟩::rest) al w:=by
 obtain⟨w',o,C,D⟩:=Qpj (P:=P) ho hj hl h1;refine Jjs (λa G=>?_) (kk w' C D);have i:=Yf w (Jxr h.ok ht hk w).2;simp[execOp,G.ev hx,G.ev hy,Instr.storeAt,Instr.sureAddr,storeVar,Value.cells,i,hs,hl,o]
end
end Go.Wk
namespace Go.Wk
open Go.RowKit
variable {p q:Bool}{cs vs:List Value}{e len:Nat}{x y:Operand}{k:TK}{t t2:TypeId}
section
variable {P:Program} {n:Nat} {al:AL} {w:World} {Q:Exit->Act->World->Prop} {ops:Array Oper} {rest:List Oper} {drest:List (Nat×Oper)}
variable {d ty:Nat} {op:Op} {pos:String} {aft:Array Edge} {tt:TT}
def toE(P:Program)(ops:Array Oper)(Q:Exit->Act->World->Prop)(w0:World)(rest:List (Nat×Oper)): Exit->Act->World->Prop
 | .normal,a,w=>Ext w0 w/\Xv P ops Q rest a w
 | _,_,_=>False
theorem Gn{w0:World}(hx:Ext w0 w)(h:WD P n ops Q drest al w): QX n (toE P ops Q w0 drest) .normal al w:=λa i=>⟨hx,h a i⟩
theorem Gr{o:Oper}(h:WL P n ops (toE P ops Q w drest) [o] al w): WD P n ops Q ((1,o)::drest) al w:=λa u=>by
 have i:=h a u;unfold wpList at i;unfold Xv wk1;simp only;have j:¬ LetsOut (toE P ops Q w drest):=by rintro⟨a,w,h⟩;exact h
 split
 .rename_i hw;simp only[hw,if_true]at i;rcases i with i|⟨_,i⟩
  .refine Oper.wp_mono (K:=wpList P ops (toE P ops Q w drest) []) (λD w' C=>C) ?_;unfold Oper.wp at i ⊢;grind [Uj,toE]
  exact absurd i j
 rename_i hw;simp only[hw]at i;exact i.2
theorem Qlv(hT:TOk P tt)(ht:tk tt t=some k)(hk:k.desc=.bool){a:Act}(ha:Fr n al a)(hx:ev al x=some (.bool p))(hy:ev al y=some (.bool q))(dst:Option Nat)(w:World):
  (execOp a.eval ⟨dst,.binOp .eql t x y t2,ty,pos,aft,none⟩).run P w=.ok (.value (.bool (p == q))) w:=by
 have i:=Yd hT ht hk rfl;have h:∀ d:Nat,(Op.equalIn (d+1) t (.bool p) (.bool q)).run P w=.ok (p == q) w:=λd=>by simp[Op.equalIn,run_underlying i]
 simp[execOp,ha.ev hx,ha.ev hy,eqGuard,binOp,Op.equal,Op.maxDepth,h 9999]
theorem eqb[h:Tab P tt](kk:WL P n ops Q rest ((d,.bool (p == q))::al) w)(ht:tk tt t=some k:=by rfl)(hk:k.desc=.bool:=by rfl)(hx:ev al x=some (.bool p):=by rfl)(hy:ev al y=some (.bool q):=by rfl)(hd:Nat.blt d n=true:=by rfl):
  WL P n ops Q (⟨some d,.binOp .eql t x y t2,ty,pos,aft,none⟩::rest) al w:=wop hd (λa i=>Qlv h.ok ht hk i hx hy (some d) w) kk
theorem dbsl{t:Nat}{parts:Array (Nat×Operand)}{pw:Array (Nat×Value)}(hb:∀ w:World,(Instr.buildSlice t len pw).run P w=.ok (.slice (some ⟨w.heap.size,0,none⟩) len len) (w.alloc (.cells cs.toArray e)))(kk:∀ w1 b,Ext w w1->w.heap.size<=b->Blk w1 b e cs->WD P n ops Q drest ((d,.slice (some ⟨b,0,none⟩) len len)::al) w1)(hx:evs al (parts.toList.map (·.2))=some vs:=by rfl)(hp:((parts.toList.map (·.1)).zip vs).toArray=pw:=by rfl)(hd:Nat.blt d n=true:=by rfl):
  WD P n ops Q ((1,⟨some d,.buildSlice t len parts,ty,pos,aft,none⟩)::drest) al w :=
 Gr (bsl hb (λw1 b i o j=>Jw (Gn i (kk w1 b i o j))) hx hp hd)
end
end Go.Wk
namespace Go.Wk
open Go.RowKit
variable {L listed:Array Bool}{l:List Oper}{fuel fuel' i id:Nat}{o oi oj:Oper}{w w0:World}
section
variable {P:Program} {ops:Array Oper} {Q:Exit->Act->World->Prop}
def noT: Nat->Bool:=λ_=>false
theorem Qhj: Jqb ops noT=true:=by simp[Jqb,noT]
def Jjn(ops:Array Oper): List (Nat×Nat)->Array Bool->Option (Array Bool)
 | [],listed=>some listed
 | (0,i)::r,listed=>if(Region.ready .any ops listed).contains i && Region.free .any ops listed i && Nat.blt i ops.size then Jjn ops r (listed.setIfInBounds i true) else none
 | (1,i)::r,listed=>if(Region.ready .any ops listed == [i]) && Nat.blt i ops.size then Jjn ops r (listed.setIfInBounds i true) else none
 | _::_,_=>none
def toK(P:Program)(ops:Array Oper)(Q:Exit->Act->World->Prop)(fuel:Nat)(listed:Array Bool): Exit->Act->World->Prop
 | .normal,a,w=>Gy P ops Q noT fuel listed a w
 | _,_,_=>False
theorem Xbn{a:Act}{K:Act->World->Prop}(h:o.wp P a w K (QF (toK P ops Q fuel listed))): o.wp P a w K (QF Q):=by
 unfold Oper.wp at h ⊢;have i:¬ LetsOut (QF (toK P ops Q fuel listed)):=by rintro⟨a,w,h⟩;exact h
 grind [Uj,QF,toK]
theorem Jbb(hsel:Region.noSelect ops=true)(fuel:Nat)(listed':Array Bool): ∀(s:List (Nat×Nat)) (listed:Array Bool) (a:Act) (w:World),Jjn ops s listed=some listed'->Xv P ops (toK P ops Q fuel listed') (Qm ops.toList s) a w->Gy P ops Q noT (s.length+fuel) listed a w
 | [],listed,a,w,hB,h=>by
  simp only[Jjn,Option.some.injEq]at hB;subst hB;simp only[List.length_nil,Nat.zero_add];exact h
 | (0,i)::r,listed,a,w,hB,h=>by
  simp only[Jjn]at hB;split at hB
  .rename_i hc;simp only[Bool.and_eq_true]at hc;obtain⟨⟨hr,hf⟩,hi0⟩:=hc;have hi:i<ops.size:=by(have:i+1<=ops.size:=by simpa [Nat.blt] using hi0);(omega)
   have ho:ops[i]?=some ops[i]:=Array.getElem?_eq_getElem hi;have hn:nth ops.toList i=some ops[i]:=by rw[Xc];simp[hi]
   simp only[Qm,hn,Xv,wk1]at h;obtain⟨v,hy,h⟩:=h;rw[show((0,i)::r).length+fuel=(r.length+fuel)+1 by simp;omega];exact Jrk Qhj ho rfl (Region.noSelect_spec hsel) _ listed a w (Region.free_spec ho hf) (by simpa using hr) hy (Jbb hsel fuel listed' r _ _ _ hB h)
  cases hB
 | (1,i)::r,listed,a,w,hB,h=>by
  simp only[Jjn]at hB;split at hB
  .rename_i hc;simp only[Bool.and_eq_true,beq_iff_eq]at hc;obtain⟨hr,hi0⟩:=hc;have hi:i<ops.size:=by(have:i+1<=ops.size:=by simpa [Nat.blt] using hi0);(omega)
   have ho:ops[i]?=some ops[i]:=Array.getElem?_eq_getElem hi;have hn:nth ops.toList i=some ops[i]:=by rw[Xc];simp[hi]
   simp only[Qm,hn,Xv,wk1]at h;rw[show((1,i)::r).length+fuel=(r.length+fuel)+1 by simp;omega];refine .inr ⟨λh0=>(by rw[hr]at h0;cases h0),λj hj=>?_⟩;rw[hr]at hj;obtain rfl:j=i:=by simpa using hj
   unfold wpOp;simp only[ho];split
   .rename_i hw;simp only[hw,if_true]at h;exact .inl (Oper.wp_mono (λa' w' h'=>⟨h'.1,Jbb hsel fuel listed' r _ _ _ hB h'.2⟩) (Xbn h))
   rename_i hw;simp only[hw]at h;exact⟨Ext.refl w,Jbb hsel fuel listed' r _ _ _ hB h⟩
  cases hB
 | (k+2,i)::r,listed,a,w,hB,h=>by simp[Jjn]at hB
end
section
variable {P:Program} {n:Nat} {al al':AL} {w:World} {Q:Exit->Act->World->Prop} {ops:Array Oper}
def WG(P:Program)(n:Nat)(ops:Array Oper)(Q:Exit->Act->World->Prop)(fuel:Nat)(listed:Array Bool)(al:AL)(w:World): Prop:=∀ a,Fr n al a->Gy P ops Q noT fuel listed a w
theorem WG.sub{fuel:Nat}{listed:Array Bool}(hs:Sub al' al)(h:WG P n ops Q fuel listed al' w): WG P n ops Q fuel listed al w:=λa i=>h a (i.sub hs)
theorem drG{tt:TT}[ht:Tab P tt](hsel:Region.noSelect l.toArray=true)(h:WG P n l.toArray Q l.toArray.size (Array.replicate l.toArray.size false) al w.drew): WC P n (.region id l.toArray true) Q al w:=λa i=>
 wp_region_any ht.mixed (Jfr (T:=noT) _ _ _ _ (h a i))
theorem Jjf(s:List (Nat×Nat))(listed':Array Bool)(hsel:Region.noSelect l.toArray=true)(hB:Jjn l.toArray s listed=some listed')(hf:fuel=s.length+fuel')(h:WD P n l.toArray (toK P l.toArray Q fuel' listed') (Qm l s) al w): WG P n l.toArray Q fuel listed al w:=λa i=>by
 subst hf;refine Jbb hsel fuel' listed' s listed a w hB ?_;have:=h a i;simpa using this
theorem Jjg(h:WG P n ops Q fuel listed al w): QX n (toK P ops Q fuel listed) .normal al w:=h
theorem gend(hr:Region.ready .any ops listed=[])(h:QX n Q .normal al w): WG P n ops Q 0 listed al w:=λa i=>⟨hr,h a i⟩
def toJ(P:Program)(ops:Array Oper)(Q:Exit->Act->World->Prop)(w0:World)(fuel:Nat)(listed:Array Bool): Exit->Act->World->Prop
 | .normal,a,w=>Ext w0 w/\Gy P ops Q noT fuel listed a w
 | _,_,_=>False
theorem Jcs(hx:Ext w0 w)(h:WG P n ops Q fuel listed al w): QX n (toJ P ops Q w0 fuel listed) .normal al w:=λa i=>⟨hx,h a i⟩
theorem Qdm(ho:ops[i]?=some o)(h:WL P n ops (toJ P ops Q w fuel listed) [o] al w): ∀ a,Fr n al a->wpOp P ops (QF Q) i (λa' w'=>Ext w w'/\Gy P ops Q noT fuel listed a' w') a w:=λa C=>by
 have j:=h a C;unfold wpList at j;unfold wpOp;simp only[ho];have u:¬ LetsOut (toJ P ops Q w fuel listed):=by rintro⟨a,w,h⟩;exact h
 split
 .rename_i hw;simp only[hw,if_true]at j;rcases j with j|⟨_,j⟩
  .left
   refine Oper.wp_mono (K:=wpList P ops (toJ P ops Q w fuel listed) []) (λa' w' D=>D) ?_;unfold Oper.wp at j ⊢;grind [Uj,toJ]
  exact absurd j u
 rename_i hw;simp only[hw]at j;exact j
theorem gtwo(i j:Nat)(hr:Region.ready .any l.toArray listed=[i,j])(hf:fuel=fuel'+1)(hi:nth l i=some oi)(hj:nth l j=some oj)(h1:WL P n l.toArray (toJ P l.toArray Q w fuel' (listed.setIfInBounds i true)) [oi] al w)(h2:WL P n l.toArray (toJ P l.toArray Q w fuel' (listed.setIfInBounds j true)) [oj] al w): WG P n l.toArray Q fuel listed al w:=λa u=>by
 subst hf;have D:l.toArray[i]?=some oi:=by rw[<-hi,Xc];simp
 have C:l.toArray[j]?=some oj:=by rw[<-hj,Xc];simp
 refine .inr ⟨λh0=>(by rw[hr]at h0;cases h0),λk o=>?_⟩;grind [Qdm]
theorem gcut{α:Type}(fuel':Nat)(L':Array Bool)(fr:α->AL)(I:α->World->Prop)(h2:∀ x w,I x w->WG P n ops Q fuel' L' (fr x) w)(h1:(∀ x al w,I x w->Sub (fr x) al->WG P n ops Q fuel' L' al w)->WG P n ops Q fuel L al w): WG P n ops Q fuel L al w:=h1 λx al w hi hs=>(h2 x w hi).sub hs
def lst(m k:Nat): Array Bool:=((List.range m).map λi=>Nat.blt i k).toArray
end
end Go.Wk
namespace Go.Wk
open Go.RowKit
variable {L listed listed':Array Bool}{l:List Oper}{fuel fuel' i id:Nat}{o oi oj:Oper}{w w0:World}
section
variable {P:Program} {ops:Array Oper} {Q:Exit->Act->World->Prop} {T:Nat->Bool}
def Kh(ops:Array Oper)(T:Nat->Bool)(F:Nat): List (Nat×Nat)->Array Bool->Option (Array Bool)
 | [],listed=>some listed
 | (0,i)::r,listed=>if(Region.ready .any ops listed).contains i && Region.free .any ops listed i && Nat.blt i ops.size && !T i && (List.range ops.size).all (λt=>!T t || Uf ops F t i) then Kh ops T F r (listed.setIfInBounds i true) else none
 | (1,i)::r,listed=>if(Region.ready .any ops listed == [i]) && Nat.blt i ops.size then Kh ops T F r (listed.setIfInBounds i true) else none
 | (2,i)::r,listed=>if(Region.ready .any ops listed == [i]) && Nat.blt i ops.size && T i then Kh ops T F r (listed.setIfInBounds i true) else none
 | _::_,_=>none
def Jjx(P:Program)(ops:Array Oper)(Q:Exit->Act->World->Prop)(T:Nat->Bool)(fuel:Nat)(listed:Array Bool): Exit->Act->World->Prop
 | .normal,a,w=>Closed ops listed->Vr P ops Q T fuel listed a w
 | _,_,_=>False
theorem Qcq{a:Act}{K:Act->World->Prop}(h:o.wp P a w K (QF (Jjx P ops Q T fuel listed))): o.wp P a w K (QF Q):=by
 unfold Oper.wp at h ⊢;have i:¬ LetsOut (QF (Jjx P ops Q T fuel listed)):=by rintro⟨a,w,h⟩;exact h
 grind [Uj,QF,Jjx]
theorem Jxk(hsel:Region.noSelect ops=true)(F fuel:Nat)(listed':Array Bool): ∀(s:List (Nat×Nat)) (listed:Array Bool) (a:Act) (w:World),Closed ops listed->Kh ops T F s listed=some listed'->Xv P ops (Jjx P ops Q T fuel listed') (Qm ops.toList s) a w->Vr P ops Q T (s.length+fuel) listed a w
 | [],listed,a,w,hcl,hB,h=>by
  simp only[Kh,Option.some.injEq]at hB;subst hB;simp only[List.length_nil,Nat.zero_add];exact h hcl
 | (0,i)::r,listed,a,w,hcl,hB,h=>by
  simp only[Kh]at hB;split at hB
  .rename_i hc;simp only[Bool.and_eq_true]at hc;obtain⟨⟨⟨⟨hr,hf⟩,hi0⟩,hTi⟩,hre⟩:=hc;have hi:i<ops.size:=by(have:i+1<=ops.size:=by simpa [Nat.blt] using hi0);(omega)
   have ho:ops[i]?=some ops[i]:=Array.getElem?_eq_getElem hi;have hn:nth ops.toList i=some ops[i]:=by rw[Xc];simp[hi]
   have hr':i∈Region.ready .any ops listed:=by simpa using hr
   simp only[Qm,hn,Xv,wk1]at h;obtain⟨v,hy,h⟩:=h;rw[show((0,i)::r).length+fuel=(r.length+fuel)+1 by simp;omega];refine Jbc Ext Ext.refl Ext.trans ho (Region.noSelect_spec hsel) ?_ _ listed a w hcl (Region.free_spec ho hf) hr' hy (Jxk hsel F fuel listed' r _ _ _ (hcl.step hr') hB h);intro listed2 j hcl2 hri hrj w w' hx;cases hT:T j with
   | false=>exact hx hT
   | true=>
    obtain⟨_,oj,hoj,_⟩:=mem_ready.1 hrj;have hjl:j<ops.size:=by grind
    have h9:=List.all_eq_true.1 hre j (List.mem_range.2 hjl);rw[hT]at h9;have h1:=Jqf hcl2 F j i oj hoj (Jqd hoj hrj) (by simpa using h9);have h0:=(mem_ready.1 hri).1;grind
  cases hB
 | (1,i)::r,listed,a,w,hcl,hB,h=>by
  simp only[Kh]at hB;split at hB
  .rename_i hc;simp only[Bool.and_eq_true,beq_iff_eq]at hc;obtain⟨hr,hi0⟩:=hc;have hi:i<ops.size:=by(have:i+1<=ops.size:=by simpa [Nat.blt] using hi0);(omega)
   have ho:ops[i]?=some ops[i]:=Array.getElem?_eq_getElem hi;have hn:nth ops.toList i=some ops[i]:=by rw[Xc];simp[hi]
   have hcl':Closed ops (listed.setIfInBounds i true):=hcl.step (by grind);simp only[Qm,hn,Xv,wk1]at h;rw[show((1,i)::r).length+fuel=(r.length+fuel)+1 by simp;omega];refine⟨λh0=>(by rw[hr]at h0;cases h0),λj hj=>?_⟩;rw[hr]at hj;obtain rfl:j=i:=by simpa using hj
   unfold wpOp;simp only[ho];split
   .rename_i hw;simp only[hw,if_true]at h;exact .inl (Oper.wp_mono (λa' w' h'=>⟨λ_=>h'.1,Jxk hsel F fuel listed' r _ _ _ hcl' hB h'.2⟩) (Qcq h))
   rename_i hw;simp only[hw]at h;exact⟨λ_=>Ext.refl w,Jxk hsel F fuel listed' r _ _ _ hcl' hB h⟩
  cases hB
 | (2,i)::r,listed,a,w,hcl,hB,h=>by
  simp only[Kh]at hB;split at hB
  .rename_i hc;simp only[Bool.and_eq_true,beq_iff_eq]at hc;obtain⟨⟨hr,hi0⟩,hTi⟩:=hc;have hi:i<ops.size:=by(have:i+1<=ops.size:=by simpa [Nat.blt] using hi0);(omega)
   have ho:ops[i]?=some ops[i]:=Array.getElem?_eq_getElem hi;have hn:nth ops.toList i=some ops[i]:=by rw[Xc];simp[hi]
   have hcl':Closed ops (listed.setIfInBounds i true):=hcl.step (by grind);simp only[Qm,hn,Xv,wk1]at h;rw[show((2,i)::r).length+fuel=(r.length+fuel)+1 by simp;omega];refine⟨λh0=>(by rw[hr]at h0;cases h0),λj hj=>?_⟩;rw[hr]at hj;obtain rfl:j=i:=by simpa using hj
   unfold wpOp;simp only[ho];split
   .rename_i hw;simp only[hw,if_true]at h;exact .inl (Oper.wp_mono (λa' w' h'=>⟨λh0=>(by grind),Jxk hsel F fuel listed' r _ _ _ hcl' hB h'⟩) (Qcq h))
   rename_i hw;simp only[hw]at h;exact⟨λ_=>Ext.refl w,Jxk hsel F fuel listed' r _ _ _ hcl' hB h⟩
  cases hB
 | (k+3,i)::r,listed,a,w,hcl,hB,h=>by simp[Kh]at hB
end
section
variable {P:Program} {n:Nat} {al al':AL} {w:World} {Q:Exit->Act->World->Prop} {ops:Array Oper} {T:Nat->Bool}
def WH(P:Program)(n:Nat)(ops:Array Oper)(Q:Exit->Act->World->Prop)(T:Nat->Bool)(fuel:Nat)(listed:Array Bool)(al:AL)(w:World): Prop:=Closed ops listed->∀ a,Fr n al a->Vr P ops Q T fuel listed a w
theorem WH.sub{fuel:Nat}{listed:Array Bool}(hs:Sub al' al)(h:WH P n ops Q T fuel listed al' w): WH P n ops Q T fuel listed al w:=λi a j=>h i a (j.sub hs)
theorem Qvr(ops:Array Oper)(m:Nat): Closed ops (Array.replicate m false):=λk o _ i=>by
 exfalso
 rcases Nat.lt_or_ge k m with h|h
 .simp[h]at i
 repeat grind
theorem drH{tt:TT}[ht:Tab P tt](T:Nat->Bool)(h:WH P n l.toArray Q T l.toArray.size (Array.replicate l.toArray.size false) al w.drew): WC P n (.region id l.toArray true) Q al w:=λa i=>
 wp_region_any ht.mixed (Jfs (T:=T) _ _ _ _ (h (Qvr _ _) a i))
theorem Zz(F:Nat)(s:List (Nat×Nat))(listed':Array Bool)(hsel:Region.noSelect l.toArray=true)(hB:Kh l.toArray T F s listed=some listed')(hf:fuel=s.length+fuel')(h:WD P n l.toArray (Jjx P l.toArray Q T fuel' listed') (Qm l s) al w): WH P n l.toArray Q T fuel listed al w:=λi a j=>by
 subst hf;refine Jxk hsel F fuel' listed' s listed a w i hB ?_;have:=h a j;simpa using this
theorem Xw(h:WH P n ops Q T fuel listed al w): QX n (Jjx P ops Q T fuel listed) .normal al w:=λa j i=>h i a j
theorem Va(hr:Region.ready .any ops listed=[])(h:QX n Q .normal al w): WH P n ops Q T 0 listed al w:=λ_ a i=>⟨hr,h a i⟩
def Jjz(P:Program)(ops:Array Oper)(Q:Exit->Act->World->Prop)(T:Nat->Bool)(w0:World)(fuel:Nat)(listed:Array Bool): Exit->Act->World->Prop
 | .normal,a,w=>Ext w0 w/\(Closed ops listed->Vr P ops Q T fuel listed a w)
 | _,_,_=>False
theorem Iu(hx:Ext w0 w)(h:WH P n ops Q T fuel listed al w): QX n (Jjz P ops Q T w0 fuel listed) .normal al w:=λa j=>⟨hx,λi=>h i a j⟩
theorem Jrd(ho:ops[i]?=some o)(hc:Closed ops listed)(h:WL P n ops (Jjz P ops Q T w fuel listed) [o] al w): ∀ a,Fr n al a->wpOp P ops (QF Q) i (λa' w'=>(T i=false->Ext w w')/\Vr P ops Q T fuel listed a' w') a w:=λa D=>by
 have j:=h a D;unfold wpList at j;unfold wpOp;simp only[ho];have u:¬ LetsOut (Jjz P ops Q T w fuel listed):=by rintro⟨a,w,h⟩;exact h
 split
 .rename_i hw;simp only[hw,if_true]at j;rcases j with j|⟨_,j⟩
  .left
   refine Oper.wp_mono (K:=wpList P ops (Jjz P ops Q T w fuel listed) []) (λa' w' C=>⟨λ_=>C.1,C.2 hc⟩) ?_;unfold Oper.wp at j ⊢;grind [Uj,Jjz]
  exact absurd j u
 rename_i hw;simp only[hw]at j;exact⟨λ_=>j.1,j.2 hc⟩
theorem htwo(i j:Nat)(hr:Region.ready .any l.toArray listed=[i,j])(hf:fuel=fuel'+1)(hi:nth l i=some oi)(hj:nth l j=some oj)(h1:WL P n l.toArray (Jjz P l.toArray Q T w fuel' (listed.setIfInBounds i true)) [oi] al w)(h2:WL P n l.toArray (Jjz P l.toArray Q T w fuel' (listed.setIfInBounds j true)) [oj] al w): WH P n l.toArray Q T fuel listed al w:=λC a D=>by
 subst hf;have J:l.toArray[i]?=some oi:=by rw[<-hi,Xc];simp
 have G:l.toArray[j]?=some oj:=by rw[<-hj,Xc];simp
 refine⟨λh0=>(by rw[hr]at h0;cases h0),λk u=>?_⟩;have o:=u;rw[hr]at u;simp only[List.mem_cons,List.not_mem_nil,or_false]at u;rcases u with rfl|rfl
 .exact Jrd J (C.step o) h1 a D
 exact Jrd G (C.step o) h2 a D
theorem hlist(e:listed=listed')(h:WH P n ops Q T fuel listed' al w): WH P n ops Q T fuel listed al w:=by subst e;exact h
theorem Jkb{α:Type}(fuel':Nat)(L':Array Bool)(fr:α->AL)(I:α->World->Prop)(h2:∀ x w,I x w->WH P n ops Q T fuel' L' (fr x) w)(h1:(∀ x al w,I x w->Sub (fr x) al->WH P n ops Q T fuel' L' al w)->WH P n ops Q T fuel L al w): WH P n ops Q T fuel L al w:=h1 λx al w hi hs=>(h2 x w hi).sub hs
end
end Go.Wk
namespace Go.Wk
open Go.RowKit
variable {a e:Act}{b z:Int}{k1 kd:IntKind}{i x y:Operand}{k:TK}{t t2 yt:TypeId}
section
variable {P:Program} {n:Nat} {al:AL} {w:World} {Q:Exit->Act->World->Prop} {ops:Array Oper} {rest:List Oper} {drest:List (Nat×Oper)}
variable {d ty:Nat} {op:Op} {pos:String} {aft:Array Edge} {tt:TT}
theorem Qhc(hT:TOk P tt){t m e sz:Nat}(ht:tk tt t=some k)(hk:k.desc=.array m e)(hz:k.esz=sz): P.underlying t=some (.array m e)/\Vd P e=some sz:=by
 have:=hT.at ht;grind [Gj]
theorem Jgx(hT:TOk P tt){t m e:Nat}{p:Addr}(j:Nat)(ht:tk tt t=some k)(hk:k.desc=.array m e)(hlt:j<m)(ha:Fr n al a)(hx:ev al x=some (.pointer (some p)))(hi:ev al i=some (.int kd z))(hj:z=(j:Int))(dst:Option Nat)(w:World):
  (execOp a.eval ⟨dst,.indexAddr t x i,ty,pos,aft,none⟩).run P w=.ok (.value (.pointer (some (p.add (j*k.esz))))) w:=by
 obtain⟨o,hs⟩:=Qhc hT ht hk rfl;subst hj;simp[execOp,ha.ev hx,ha.ev hi,Instr.indexAt,asIntOf,run_underlying o,Yf w hs,Instr.sureAddr];intro h;omega
theorem Qlr{a:Int}(h0:b≠0)(he:Fr n al e)(hx:ev al x=some (.int k1 a))(hy:ev al y=some (.int k1 b))(dst:Option Nat)(w:World):
  (execOp e.eval ⟨dst,.binOp .rem t x y yt,ty,pos,aft,none⟩).run P w=.ok (.value (.int k1 (a.tmod b))) w:=by
 simp[execOp,he.ev hx,he.ev hy,eqGuard,binOp,Op.intDiv,h0]
theorem rem{a:Int}(h0:b≠0)(kk:WL P n ops Q rest ((d,.int k1 (a.tmod b))::al) w)(hx:ev al x=some (.int k1 a):=by rfl)(hy:ev al y=some (.int k1 b):=by rfl)(hd:Nat.blt d n=true:=by rfl):
  WL P n ops Q (⟨some d,.binOp .rem t x y yt,ty,pos,aft,none⟩::rest) al w:=by grind [wop,Qlr]
theorem Qls(hT:TOk P tt){p q:Bool}(ht:tk tt t=some k)(hk:k.desc=.bool)(ha:Fr n al a)(hx:ev al x=some (.bool p))(hy:ev al y=some (.bool q))(dst:Option Nat)(w:World):
  (execOp a.eval ⟨dst,.binOp .neq t x y t2,ty,pos,aft,none⟩).run P w=.ok (.value (.bool (!(p == q)))) w:=by
 have i:=Yd hT ht hk rfl;have h:∀ d:Nat,(Op.equalIn (d+1) t (.bool p) (.bool q)).run P w=.ok (p == q) w:=λd=>by simp[Op.equalIn,run_underlying i]
 simp[execOp,ha.ev hx,ha.ev hy,eqGuard,binOp,Op.equal,Op.maxDepth,h 9999]
end
end Go.Wk
namespace Go.Proofs.YtcdccafgdnblaaaGreatDoor
namespace Pl
variable {a b l:List UInt32}{i m n:Nat}{c:UInt32}
def val: List UInt32->Nat
 | []=>0
 | c::l=>c.toNat+4294967296*val l
def Jj(n:Nat): List UInt32:=if h:n=0 then[] else UInt32.ofNat n::Jj (n / 4294967296)
termination_by n
decreasing_by exact Nat.div_lt_self om (by decide)
theorem limbs_0: Jj 0=[]:=by rw[Jj];rfl
theorem Jcm(h:n≠0): Jj n=UInt32.ofNat n::Jj (n / 4294967296):=by rw[Jj,dif_neg h]
theorem Qtg(h:c.toNat+4294967296*m≠0): Jj (c.toNat+4294967296*m)=c::Jj m:=by
 have i:=c.toNat_lt;grind [Jcm,UInt32.toNat_inj.1,UInt32.toNat_ofNat']
def Xu: List UInt32->List UInt32
 | []=>[]
 | c::l=>if Xu l=[]/\c=0 then[] else c::Xu l
theorem val_0(h:Xu l=[]): val l=0:=by
 induction l with
 | nil=>rfl
 | cons c l ih=>
  simp only[Xu]at h;split at h
  .rename_i h2;rw[val,ih h2.1,h2.2];rfl
  cases h
theorem Ip: ∀ l:List UInt32,Xu l=Jj (val l)
 | []=>by rw[val,limbs_0];rfl
 | c::l=>by
  have ih:=Ip l;simp only[Xu,val];split
  .rename_i h;rw[val_0 h.1,h.2];exact limbs_0.symm
  rename_i h;rw[Qtg,ih];intro h0;apply h
  have hv:val l=0:=om
  refine⟨?_,?_⟩
  .rw[ih,hv,limbs_0]
  apply UInt32.toNat_inj.1
  grind
theorem Yc(n:Nat): val (Jj n)=n:=by
 induction n using Nat.strongRecOn with
 | ind n ih=>
  grind [limbs_0,Jcm,val,Nat.div_lt_self,UInt32.toNat_ofNat']
theorem Qgl(n:Nat): Xu (Jj n)=Jj n:=by rw[Ip,Yc]
theorem Jsj(l:List UInt32): Xu (l++[0])=Xu l:=by
 induction l with
 | nil=>rfl
 | cons c l ih=>simp only[List.cons_append,Xu,ih]
theorem Qgk(l:List UInt32)(h:c≠0): Xu (l++[c])=l++[c]:=by
 induction l with
 | nil=>simp[Xu,h]
 | cons d l ih=>simp only[List.cons_append,Xu,ih];simp
theorem Il(a b:List UInt32): val (a++b)=val a+4294967296^a.length*val b:=by
 induction a with
 | nil=>simp[val]
 | cons c a ih=>rw[List.cons_append,val,val,ih,List.length_cons,Nat.pow_succ,Nat.mul_add,<-Nat.mul_assoc,Nat.mul_comm (4294967296^a.length) 4294967296];omega
theorem Jbf(a:List UInt32): val a<4294967296^a.length:=by
 induction a with
 | nil=>simp[val]
 | cons c a ih=>
  have i:c.toNat<4294967296:=c.toNat_lt;grind [val,List.length_cons,Nat.pow_succ,Nat.mul_le_mul_left,Nat.mul_comm]
theorem Qfn(l:List UInt32)(h:c≠0): 4294967296^l.length<=val (l++[c]):=by
 have i:0<c.toNat:=by
  rcases Nat.eq_zero_or_pos c.toNat with h0|h0
  .exact absurd (UInt32.toNat_inj.1 h0) h
  exact h0
 rw[Il,val];have:4294967296^l.length*1<=4294967296^l.length*(c.toNat+4294967296*val []):=Nat.mul_le_mul_left _ om;omega
theorem Qtf(h:n≠0): ∃ l c,Jj n=l++[c]/\c≠0:=by
 rcases List.eq_nil_or_concat (Jj n) with h0|⟨l,c,h0⟩
 .have:=Yc n;rw[h0]at this;exact absurd this.symm h
 refine⟨l,c,by rw[h0];simp,λo=>?_⟩;subst o;have i:=Qgl n;rw[h0,List.concat_eq_append,Jsj]at i;have j:=congrArg List.length i;have u:(Xu l).length<=l.length:=by
  clear i j h0;induction l with
  | nil=>simp[Xu]
  | cons c l ih=>simp only[Xu];split<;>simp;exact ih
 simp at j;omega
theorem Jlp(h:n≠0): 4294967296^((Jj n).length-1)<=n:=by
 obtain⟨l,c,j,i⟩:=Qtf h;grind [Qfn,Yc]
theorem Qtd(n:Nat): n<4294967296^(Jj n).length:=by grind [Jbf,Jj,Yc]
theorem Qxt(h:(Jj n).length<(Jj m).length): n<m:=by
 have i:m≠0:=by grind [limbs_0]
 have u:=Jlp i;have o:=Qtd n;have j:4294967296^(Jj n).length<=4294967296^((Jj m).length-1):=Nat.pow_le_pow_right (by decide) om;omega
def Vq(n m:Nat): Int:=if n<m then -1 else if m<n then 1 else 0
theorem Qfm(ha:i<a.length)(hab:a.length=b.length)(ht:a.drop (i+1)=b.drop (i+1))(hl:(a.getD i 0).toNat<(b.getD i 0).toNat): val a<val b:=by
 have G:i<b.length:=om
 have D:a=a.take i++(a.getD i 0::a.drop (i+1)):=by grind [List.getD,List.getElem?_eq_getElem,List.drop_eq_getElem_cons,List.take_append_drop]
 have C:b=b.take i++(b.getD i 0::b.drop (i+1)):=by grind [List.getD,List.getElem?_eq_getElem,List.drop_eq_getElem_cons,List.take_append_drop]
 rw[D,C,Il,Il,val,val,ht];have u:(a.take i).length=i:=by grind
 have o:(b.take i).length=i:=by grind
 have j:=Jbf (a.take i);rw[u]at j ⊢;rw[o];have:4294967296^i*((a.getD i 0).toNat+1+4294967296*val (b.drop (i+1)))<=4294967296^i*((b.getD i 0).toNat+4294967296*val (b.drop (i+1))):=Nat.mul_le_mul_left _ om;grind
end Pl
open Go.RowKit Go.Wk
def tt: TT:=[(3,{ desc:=.int .i64 }),
 (2,{ desc:=.int .i64 }),
 (5,{ desc:=.int .u8 }),
 (89,{ desc:=.int .u32 }),
 (48,{ desc:=.int .u64 }),
 (115,{ desc:=.int .u64 }),
 (4,{ desc:=.bool }),
 (9,{ desc:=.string }),
 (34,{ desc:=.int .i64 }),
 (242,{ desc:=.int .i64 }),
 (265,{ desc:=.int .u64 }),
 (31,{ desc:=.slice 89,esz:=1 }),
 (28,{ desc:=.slice 4,esz:=1 }),
 (37,{ desc:=.slice 3,esz:=1 }),
 (205,{ desc:=.slice 5,esz:=1 }),
 (30,{ desc:=.slice 89,esz:=1 }),
 (54,{ desc:=.slice 112,esz:=3 }),
 (53,{ desc:=.slice 112,esz:=3 }),
 (78,{ desc:=.slice 54,esz:=1 }),
 (66,{ desc:=.slice 37,esz:=1 }),
 (67,{ desc:=.slice 78,esz:=1 }),
 (41,{ desc:=.slice 135,esz:=3 }),
 (38,{ desc:=.slice 85,esz:=3 }),
 (149,{ desc:=.slice 154,esz:=3 }),
 (42,{ desc:=.slice 149,esz:=1 }),
 (43,{ desc:=.slice 163,esz:=1 }),
 (101,{ desc:=.slice 140,esz:=1 }),
 (102,{ desc:=.slice 148,esz:=1 }),
 (141,{ desc:=.slice 204,esz:=2 }),
 (254,{ desc:=.slice 260,esz:=1 }),
 (251,{ desc:=.slice 254,esz:=1 }),
 (255,{ desc:=.slice 274,esz:=2 }),
 (289,{ desc:=.slice 31,esz:=1 }),
 (112,{ desc:=.invalid,size:=3,offs:=[0,1,2] }),
 (80,{ desc:=.invalid,size:=2,offs:=[0,1] }),
 (85,{ desc:=.invalid,size:=3,offs:=[0,1] }),
 (40,{ desc:=.invalid,size:=5,offs:=[0,1,2,3,4] }),
 (45,{ desc:=.invalid,size:=5,offs:=[0,1,2,3,4] }),
 (69,{ desc:=.invalid,size:=6,offs:=[0,1,2,3,4,5] }),
 (75,{ desc:=.invalid,size:=5,offs:=[0,1,2,3,4] }),
 (135,{ desc:=.invalid,size:=3,offs:=[0,1,2] }),
 (95,{ desc:=.invalid,size:=2,offs:=[0,1] }),
 (152,{ desc:=.invalid,size:=2,offs:=[0,1] }),
 (210,{ desc:=.invalid,size:=4,offs:=[0,3] }),
 (221,{ desc:=.invalid,size:=9,offs:=[0,4,5,6,7,8] }),
 (154,{ desc:=.invalid,size:=3,offs:=[0,1] }),
 (204,{ desc:=.invalid,size:=2,offs:=[0,1] }),
 (104,{ desc:=.invalid,size:=10,offs:=[0,5,6,7,8,9] }),
 (178,{ desc:=.invalid,size:=9,offs:=[0,5,6,7,8] }),
 (253,{ desc:=.invalid,size:=4,offs:=[0,1,2,3] }),
 (274,{ desc:=.invalid,size:=2,offs:=[0,1] }),
 (257,{ desc:=.invalid,size:=1,offs:=[0] }),
 (277,{ desc:=.invalid,size:=2,offs:=[0,1] }),
 (280,{ desc:=.invalid,size:=69,offs:=[0,1,2,4,68] }),
 (171,{ desc:=.pointer 178 }),
 (150,{ desc:=.pointer 221 }),
 (139,{ desc:=.pointer 104 }),
 (157,{ desc:=.pointer 154 }),
 (250,{ desc:=.pointer 253 }),
 (260,{ desc:=.pointer 280 }),
 (269,{ desc:=.pointer 3 }),
 (290,{ desc:=.pointer 265 }),
 (131,{ desc:=.array 32 3,size:=32,esz:=1 }),
 (132,{ desc:=.array 32 89,size:=32,esz:=1 }),
 (278,{ desc:=.array 32 277,size:=64,esz:=2 }),
 (285,{ desc:=.array 24 5,size:=24,esz:=1 }),
 (187,{ desc:=.func #[54] #[4] false }),
 (163,{ desc:=.map 9 3 }),
 (140,{ desc:=.map 9 4 }),
 (148,{ desc:=.map 9 31 }),
 (176,{ desc:=.map 3 152 }),
 (222,{ desc:=.func #[150] #[3] false })]
theorem Im: TOk Tryz.prog tt:=⟨⟨kr,kr⟩,
 ⟨kr,kr⟩,
 ⟨kr,kr⟩,
 ⟨kr,kr⟩,
 ⟨kr,kr⟩,
 ⟨kr,kr⟩,
 ⟨kr,kr⟩,
 ⟨kr,kr⟩,
 ⟨kr,kr⟩,
 ⟨kr,kr⟩,
 ⟨kr,kr⟩,
 ⟨kr,kr,kr⟩,
 ⟨kr,kr,kr⟩,
 ⟨kr,kr,kr⟩,
 ⟨kr,kr,kr⟩,
 ⟨kr,kr,kr⟩,
 ⟨kr,kr,kr⟩,
 ⟨kr,kr,kr⟩,
 ⟨kr,kr,kr⟩,
 ⟨kr,kr,kr⟩,
 ⟨kr,kr,kr⟩,
 ⟨kr,kr,kr⟩,
 ⟨kr,kr,kr⟩,
 ⟨kr,kr,kr⟩,
 ⟨kr,kr,kr⟩,
 ⟨kr,kr,kr⟩,
 ⟨kr,kr,kr⟩,
 ⟨kr,kr,kr⟩,
 ⟨kr,kr,kr⟩,
 ⟨kr,kr,kr⟩,
 ⟨kr,kr,kr⟩,
 ⟨kr,kr,kr⟩,
 ⟨kr,kr,kr⟩,
 ⟨_,Tryz.underlying112,kr,kr⟩,
 ⟨_,Tryz.underlying80,kr,kr⟩,
 ⟨_,Tryz.underlying85,kr,kr⟩,
 ⟨_,Tryz.underlying40,kr,kr⟩,
 ⟨_,Tryz.underlying45,kr,kr⟩,
 ⟨_,Tryz.underlying69,kr,kr⟩,
 ⟨_,Tryz.underlying75,kr,kr⟩,
 ⟨_,Tryz.underlying135,kr,kr⟩,
 ⟨_,Tryz.underlying95,kr,kr⟩,
 ⟨_,Tryz.underlying152,kr,kr⟩,
 ⟨_,Tryz.underlying210,kr,kr⟩,
 ⟨_,Tryz.underlying221,kr,kr⟩,
 ⟨_,Tryz.underlying154,kr,kr⟩,
 ⟨_,Tryz.underlying204,kr,kr⟩,
 ⟨_,Tryz.underlying104,kr,kr⟩,
 ⟨_,Tryz.underlying178,kr,kr⟩,
 ⟨_,Tryz.underlying253,kr,kr⟩,
 ⟨_,Tryz.underlying274,kr,kr⟩,
 ⟨_,Tryz.underlying257,kr,kr⟩,
 ⟨_,Tryz.underlying277,kr,kr⟩,
 ⟨_,Tryz.underlying280,kr,kr⟩,
 ⟨kr,kr⟩,
 ⟨kr,kr⟩,
 ⟨kr,kr⟩,
 ⟨kr,kr⟩,
 ⟨kr,kr⟩,
 ⟨kr,kr⟩,
 ⟨kr,kr⟩,
 ⟨kr,kr⟩,
 ⟨kr,kr,kr⟩,
 ⟨kr,kr,kr⟩,
 ⟨kr,kr,kr⟩,
 ⟨kr,kr,kr⟩,
 ⟨kr,kr⟩,
 ⟨kr,kr⟩,
 ⟨kr,kr⟩,
 ⟨kr,kr⟩,
 ⟨kr,kr⟩,
 ⟨kr,kr⟩,trivial⟩
theorem mixed: Tryz.prog.follows .mixedOrders=true:=kr
instance:Tab Tryz.prog tt:=⟨Im,mixed⟩
theorem EN: ElT Tryz.prog 31 89 1 4 (.int .u32 0):=⟨Tryz.underlying31,info_parts kr,rfl,by decide⟩
theorem EV: ElT Tryz.prog 54 112 3 32 (.agg #[.int .i64 0,.int .i64 0,.string ⟨#[]⟩]):=⟨Tryz.underlying54,info_parts kr,rfl,by decide⟩
theorem ER: ElT Tryz.prog 78 54 1 24 (.slice none 0 0):=⟨Tryz.underlying78,info_parts kr,rfl,by decide⟩
theorem bsN(x y:Int)(w:World): (Instr.buildSlice 31 2 #[(0,.int .u32 x),(1,.int .u32 y)]).run Tryz.prog w=.ok (.slice (some ⟨w.heap.size,0,none⟩) 2 2) (w.alloc (.cells #[.int .u32 x,.int .u32 y] 89)):=kr
open Go.RowKit Pl Go.Wk _root_.Go.Proofs.Tryz
attribute [local irreducible] WC WL QX WD WDB
variable {l:List UInt32}{c k m n:Nat}{A:Option Addr}{a b:UInt32}{u v:Value}{w:World}
def Nc(l:List UInt32): List Value:=l.map λc=>.int .u32 (c.toNat:Int)
theorem Qcr(l:List UInt32): (Nc l).length=l.length:=by simp[Nc]
theorem Zr(h:k<l.length): (Nc l)[k]?=some (.int .u32 ((l.getD k 0).toNat:Int)):=by simp[Nc,List.getD,List.getElem?_eq_getElem h]
theorem Xbp(l:List UInt32)(k:Nat): (Nc l).take k=Nc (l.take k):=by simp[Nc]
theorem Jfg(l:List UInt32): ∀ u∈Nc l,u.oneCell'=true:=by
 intro u i;simp[Nc]at i;obtain⟨c,_,rfl⟩:=i;rfl
def NatV(w:World)(v:Value)(n:Nat): Prop:=∃ A c,v=.slice A (Jj n).length c/\(Jj n).length<=c/\(Jj n).length<=4611686018427387904/\Rd w 1 A (Jj n).length (Nc (Jj n))
theorem NatV.ext{w w':World}{v:Value}{n:Nat}(h:NatV w v n)(hx:Ext w w'): NatV w' v n:=by
 obtain⟨A,c,u,o,j,i⟩:=h;exact⟨A,c,u,o,j,i.ext hx⟩
theorem NatV.nil(w:World): NatV w (.slice none 0 0) 0:=⟨none,0,by rw[limbs_0];rfl,by rw[limbs_0];simp,by rw[limbs_0];simp,by rw[limbs_0];exact Rd.nil⟩
theorem Jfw: ∀ l:List UInt32,Xu l=l.take (Xu l).length
 | []=>rfl
 | c::l=>by
  simp only[Xu];split
  .rfl
  rw[List.length_cons,List.take_succ_cons,<-Jfw l]
theorem Jsk(l:List UInt32): (Xu l).length<=l.length:=by grind [List.length,Jfw,List.length_take]
theorem Jxn(hr:Rd w 1 A l.length (Nc l))(hm:l.length<=4611686018427387904): NatV w (.slice A (Jj (val l)).length (Jj (val l)).length) (val l):=by
 have h:=hr.take (m:=(Xu l).length) (Jsk l);rw[Nat.mul_one,Xbp,<-Jfw]at h;have:=Jsk l;rw[<-Ip];exact⟨A,(Xu l).length,by rw[<-Ip],by rw[<-Ip];exact nR _,by rw[<-Ip];omega,by grind [Ip]⟩
theorem Jjw(hr:Rd w 1 A l.length (Nc l))(hc:l.length<=c)(hm:l.length<=4611686018427387904):
  Ret prog 38 [.slice A l.length c] w λv w'=>v=.slice A (Jj (val l)).length (Jj (val l)).length/\w'=w:=by
 refine enE func38 ntmps38 ?_;refine ρ ?_;have u:∀ k,k<=l.length->Xu (l.take k)=Xu l->Xu (l.take k)=l.take k->k=(Jj (val l)).length:=λk o Z O=>by grind [Ip,List.length_take]
 refine Qr (λk=>[(0,.slice A l.length c),(3,.int .i64 ((k:Nat):Int))]) (λk w'=>w'=w/\k<=l.length/\Xu (l.take k)=Xu l) (λk=>k) l.length sB ⟨rfl,Nat.le_refl _,by rw[List.take_length]⟩ ?_;rintro k w' ⟨rfl,o,hn⟩;have done:∀ k,k=(Jj (val l)).length->k<=l.length->(Value.slice A k k)=.slice A (Jj (val l)).length (Jj (val l)).length:=λk h _=>by rw[h]
 refine ρ ?_;refine ki 8 (λh=>?_) (λh=>?_)
 .have J:0<k:=by have:=oT h;omega
  have j:k-1<l.length:=om
  have C:l.take k=l.take (k-1)++[l.getD (k-1) 0]:=by grind [List.take_succ_eq_append_getElem,List.getD,List.getElem?_eq_getElem]
  refine ixR (k-1) hr j ?_;refine ldR (hr.cell (Zr j)) ?_;refine ciR (λh0=>?_) (λh0=>?_)
  .have G:l.getD (k-1) 0=0:=by
    have:=Zf h0;apply UInt32.toNat_inj.1
    grind
   refine ρ ?_;refine Qn (k-1) sO ⟨rfl,om,?_⟩ om;rw[<-hn,C,G,Jsj]
  have G:l.getD (k-1) 0≠0:=by
   have:=Zk h0;intro e;rw[e]at this;exact this rfl
  have i:=u k o hn (by grind [Qgk]);refine ρ ?_;refine Jyt Im 0 k k A k k rfl rfl rfl rfl rfl ⟨_,_,rfl,rfl⟩ ⟨_,_,rfl,rfl⟩ (.inr (by simp)) (Nat.zero_le _) (nR _) om (cut0 A _ _) rfl rfl rfl ?_;refine ρ ?_;exact Jq ⟨done k i o,rfl⟩
 have D:k=0:=by have:=oF h;omega
 subst D;have i:=u 0 o hn rfl;refine ρ ?_;refine Jyt Im 0 0 0 A 0 0 rfl rfl rfl rfl rfl ⟨_,_,rfl,rfl⟩ ⟨_,_,rfl,rfl⟩ (.inr (by simp)) (Nat.zero_le _) (nR _) om (cut0 A _ _) rfl rfl rfl ?_;refine ρ ?_;exact Jq ⟨done 0 i o,rfl⟩
theorem Uu(h:NatV w v n): Ret prog 38 [v] w λv' w'=>(∃ A,v'=.slice A (Jj n).length (Jj n).length/\Rd w 1 A (Jj n).length (Nc (Jj n)))/\w'=w:=by
 obtain⟨A,c,rfl,o,j,i⟩:=h;refine(Jjw i o j).mono ?_;grind [Yc]
theorem Gc(n:Nat): IntKind.u32.wrap (n:Int)=((UInt32.ofNat n).toNat:Int):=by
 rw[UInt32.toNat_ofNat',IntKind.wrap_u32];omega
theorem Jsf(n:Nat): IntKind.u32.wrap ((n:Int).fdiv (2^min (32:Int).toNat IntKind.u64.bits))=((UInt32.ofNat (n / 4294967296)).toNat:Int):=by
 have e:(2:Int)^min (32:Int).toNat IntKind.u64.bits=((4294967296:Nat):Int):=by decide
 rw[e,Int.fdiv_eq_ediv_of_nonneg _ (Int.natCast_nonneg _),UInt32.toNat_ofNat',IntKind.wrap_u32];omega
theorem Jrx(n:Nat)(h:n<18446744073709551616): val [UInt32.ofNat n,UInt32.ofNat (n / 4294967296)]=n:=by grind [val,UInt32.toNat_ofNat']
theorem Qrx(n:Nat)(h:n<18446744073709551616)(w:World): Ret prog 13 [.int .u64 (n:Int)] w λv w'=>NatV w' v n/\Ext w w':=by
 refine enE func13 ntmps13 ?_;refine ρ ?_;refine Yu rfl rfl (by decide) rfl ?_;refine Xq (bsN _ _) ?_;intro u b j C i;rw[Gc,Jsf]at i;have o:Rd u 1 (some ⟨b,0,none⟩) 2 (Nc [UInt32.ofNat n,UInt32.ofNat (n / 4294967296)]):=i.rd rfl;refine clR (Jjw (l:=[UInt32.ofNat n,UInt32.ofNat (n / 4294967296)]) (c:=2) o (nR _) (by simp)) ?_;rintro v D ⟨rfl,rfl⟩;have:=Jxn o (by simp);rw[Jrx n h]at this ⊢;refine ρ ?_;exact Jq ⟨this,j⟩
def sgn(a b:Int): Int:=if a<b then -1 else if b<a then 1 else 0
theorem Qzx(x:Int)(w:World): Ret prog 78 [.int .i64 x] w λv w'=>v=.bool false/\w'=w:=by
 refine enE func78 ntmps78 ?_;refine ρ ?_;refine Jq ⟨?_,rfl⟩;simp
theorem Qwx(x y:Int)(w:World): Ret prog 40 [.int .i64 x,.int .i64 y] w λv w'=>v=.int .i64 (sgn x y)/\w'=w:=by
 refine enE func40 ntmps40 ?_;refine clR (Qzx x w) ?_;rintro v w' ⟨rfl,rfl⟩;refine clR (Qzx y w') ?_;rintro v i ⟨rfl,rfl⟩;refine ciR (λh=>?_) (λh=>?_)
 .refine ρ ?_;refine Jq ⟨?_,rfl⟩;grind [sgn]
 refine ciR (λj=>?_) (λj=>?_)
 .refine ρ ?_;refine Jq ⟨?_,rfl⟩;grind [sgn]
 refine ρ ?_;refine Jq ⟨?_,rfl⟩;grind [sgn]
theorem Qzw(x:Int)(w:World): Ret prog 79 [.int .u32 x] w λv w'=>v=.bool false/\w'=w:=by
 refine enE func79 ntmps79 ?_;refine ρ ?_;refine Jq ⟨?_,rfl⟩;simp
theorem Xzk(x y:Int)(w:World): Ret prog 41 [.int .u32 x,.int .u32 y] w λv w'=>v=.int .i64 (sgn x y)/\w'=w:=by
 refine enE func41 ntmps41 ?_;refine clR (Qzw x w) ?_;rintro v w' ⟨rfl,rfl⟩;refine clR (Qzw y w') ?_;rintro v i ⟨rfl,rfl⟩;refine ciR (λh=>?_) (λh=>?_)
 .refine ρ ?_;refine Jq ⟨?_,rfl⟩;grind [sgn]
 refine ciR (λj=>?_) (λj=>?_)
 .refine ρ ?_;refine Jq ⟨?_,rfl⟩;grind [sgn]
 refine ρ ?_;refine Jq ⟨?_,rfl⟩;grind [sgn]
theorem Qzz(x:Int)(w:World): Ret prog 170 [.int .i64 x] w λv w'=>v=.bool false/\w'=w:=by
 refine enE func170 ntmps170 ?_;refine ρ ?_;refine Jq ⟨?_,rfl⟩;simp
theorem Xzl(x y:Int)(w:World): Ret prog 151 [.int .i64 x,.int .i64 y] w λv w'=>v=.int .i64 (sgn x y)/\w'=w:=by
 refine enE func151 ntmps151 ?_;refine clR (Qzz x w) ?_;rintro v w' ⟨rfl,rfl⟩;refine clR (Qzz y w') ?_;rintro v i ⟨rfl,rfl⟩;refine ciR (λh=>?_) (λh=>?_)
 .refine ρ ?_;refine Jq ⟨?_,rfl⟩;grind [sgn]
 refine ciR (λj=>?_) (λj=>?_)
 .refine ρ ?_;refine Jq ⟨?_,rfl⟩;grind [sgn]
 refine ρ ?_;refine Jq ⟨?_,rfl⟩;grind [sgn]
theorem Jtr(n m:Nat): sgn (n:Int) (m:Int)=Vq n m:=by grind [sgn,Vq]
theorem Qgg(h:((a.toNat:Int) != (b.toNat:Int))=false): a=b:=by grind [UInt32.toNat_inj.1]
theorem Qgf(h:((a.toNat:Int) != (b.toNat:Int))=true): a.toNat≠b.toNat:=by grind
theorem Gg(hv:NatV w v n)(hu:NatV w u m): Ret prog 10 [v,u] w λr w'=>r=.int .i64 (Vq n m)/\Ext w w':=by
 have a2:=hv;have a3:=hu;obtain⟨_,_,_,_,a8,_⟩:=a2;obtain⟨_,_,_,_,a9,_⟩:=a3;refine enE func10 ntmps10 ?_;refine clR (Uu hv) ?_;rintro v' w' ⟨⟨A,rfl,ha⟩,rfl⟩;refine clR (Uu hu) ?_;rintro u' a1 ⟨⟨B,rfl,hb⟩,rfl⟩;refine ciR (λh=>?_) (λh=>?_)
 .refine clR (Qwx _ _ _) ?_;rintro t Z ⟨rfl,rfl⟩;refine ρ ?_;refine Jq ⟨?_,Ext.refl _⟩;grind [Jtr,Jj,Vq,Nat.lt_or_gt_of_ne,Qxt]
 have a6:(Jj n).length=(Jj m).length:=by grind
 refine ρ ?_;refine Qr (λk=>[(0,.slice A (Jj n).length (Jj n).length),(1,.slice B (Jj m).length (Jj m).length),(5,.int .i64 ((k:Nat)-1:Int))]) (λk w'=>Ext a1 w'/\k<=(Jj n).length/\(Jj n).drop k=(Jj m).drop k) (λk=>k) (Jj n).length sB
  ⟨Ext.refl _,Nat.le_refl _,by grind⟩ ?_
 rintro k Z ⟨hx,hk,hd⟩;refine ciR (λh=>?_) (λh=>?_)
 .have a5:0<k:=by have:=oT h;omega
  have C:k-1<(Jj n).length:=om
  have o:k-1<(Jj m).length:=om
  have j:=hx.trans ((Ext.refl Z).drew);have O:=ha.ext j;have G:=hb.ext j;refine drR (scq 9 []) ?_;refine Jg (k-1) O C ?_;refine Jz (O.cell (Zr C)) ?_;refine Jg (k-1) G o ?_;refine Jz (G.cell (Zr o)) ?_;refine ρd ?_;refine ciR (λh=>?_) (λh=>?_)
  .have a7:=Qgf h;have i:=j.trans ((Ext.refl Z.drew).drew);have J:=ha.ext i;have D:=hb.ext i;refine drR (scq 10 [8]) ?_;refine Jg (k-1) J C ?_;refine Jz (J.cell (Zr C)) ?_;refine Jg (k-1) D o ?_;refine Jz (D.cell (Zr o)) ?_;refine Jh (Xzk _ _ _) ?_;rintro t w2 ⟨rfl,rfl⟩;refine⟨Ext.refl _,?_⟩;refine ρd ?_;refine ρ ?_;refine Jq ⟨?_,i⟩;grind [Jtr,Vq,Jj,Nat.lt_or_gt_of_ne,Qfm,Yc]
  have he:=Qgg h;refine ρ ?_;refine Qn (k-1) sO ⟨j,om,?_⟩ om;grind [List.drop_eq_getElem_cons,Jj,List.getD,List.getElem?_eq_getElem]
 have a4:k=0:=by have:=oF h;omega
 subst a4;have:n=m:=by grind [Yc,val]
 subst this;refine ρ ?_;refine Jq ⟨?_,hx⟩;simp[Vq]
end Go.Proofs.YtcdccafgdnblaaaGreatDoor
namespace Go.Wk
open Go.RowKit
variable {c e m t t2:Nat}
section
variable {P:Program} {n:Nat} {al:AL} {w:World} {Q:Exit->Act->World->Prop} {ops:Array Oper} {rest:List Oper}
variable {d ty:Nat} {op:Op} {pos:String} {aft:Array Edge} {tt:TT}
theorem Kq[h:Tab P tt]{x:Operand}{k:TK}{A:Option Addr}(kk:WL P n ops Q rest ((d,.bool A.isNone)::al) w)(ht:tk tt t=some k:=by rfl)(hk:k.desc=.slice e:=by rfl)(hx:ev al x=some (.slice A m c):=by rfl)(hd:Nat.blt d n=true:=by rfl): WL P n ops Q (⟨some d,.binOp .eql t x (.const (.slice none 0 0)) t2,ty,pos,aft,none⟩::rest) al w :=
 wop hd (λa j=>by
  have i:=(Kp h.ok ht hk rfl).1;have o:a.eval (.const (.slice none 0 0))=.slice none 0 0:=rfl;simp[execOp,j.ev hx,o,eqGuard,binOp,run_equal_slice_nil w t e A m c i]) kk
end
end Go.Wk
namespace Go.Proofs.YtcdccafgdnblaaaGreatDoor
open Go.RowKit Pl Go.Wk _root_.Go.Proofs.Tryz
attribute [local irreducible] WC WL QX WD WDB
variable {cs:List Value}{c n:Nat}{A:Option Addr}{w:World}
theorem EB: ElT prog 28 4 1 1 (.bool false):=⟨underlying28,info_parts kr,rfl,by decide⟩
theorem EI: ElT prog 37 3 1 8 (.int .i64 0):=⟨underlying37,info_parts kr,rfl,by decide⟩
theorem Qyr(w:World): (Instr.buildSlice 28 0 #[]).run prog w=.ok (.slice (some ⟨w.heap.size,0,none⟩) 0 0) (w.alloc (.cells ([]:List Value).toArray 4)):=kr
theorem Xks(hr:Rd w 1 A n cs)(h1:∀ u∈cs,u.oneCell'=true)(hb:n*1<=140737488355328):
  Ret prog 46 [.slice A n c] w λv w'=>(∃ A' c',v=.slice A' n c'/\n<=c'/\Rd w' 1 A' n cs)/\Ext w w':=by
 refine enE func46 ntmps46 ?_;refine ρ ?_;refine Kq ?_;refine ciR (λh=>?_) (λh=>?_)
 .have J:A=none:=by simpa using h
  subst J;have hn:n=0:=by
   rcases Nat.eq_zero_or_pos n with h0|h0
   .exact h0
   obtain⟨ad,O,_⟩:=hr.isome h0 om;cases O
  subst hn;refine ρ ?_;exact Jq ⟨⟨none,0,rfl,Nat.le_refl _,hr⟩,Ext.refl w⟩
 refine Xq Qyr ?_;intro w1 b j G D;refine ρ ?_;refine apo j EB (D.own (n:=0) G rfl (Nat.zero_le _)) (hr.ext j) h1 (by unfold maxLen;omega) om ?_;intro v2 w2 i C _ _;obtain⟨A2,Z,rfl,o,_⟩:=Jy i;refine ρ ?_;rw[Nat.zero_add]at i o ⊢;exact Jq ⟨⟨A2,Z,rfl,o,Rd.own i⟩,C⟩
theorem Jnr(hr:Rd w 1 A n cs)(h1:∀ u∈cs,u.oneCell'=true)(hb:n*1<=140737488355328):
  Ret prog 46 [.slice A n c] w λv w'=>(∃ A' c',v=.slice A' n c'/\n<=c'/\Rd w' 1 A' n cs/\∀ ad,A'=some ad->w.heap.size<=ad.block)/\Ext w w':=by
 refine enE func46 ntmps46 ?_;refine ρ ?_;refine Kq ?_;refine ciR (λh=>?_) (λh=>?_)
 .have O:A=none:=by simpa using h
  subst O;have hn:n=0:=by
   rcases Nat.eq_zero_or_pos n with h0|h0
   .exact h0
   obtain⟨ad,Z,_⟩:=hr.isome h0 om;cases Z
  subst hn;refine ρ ?_;exact Jq ⟨⟨none,0,rfl,Nat.le_refl _,hr,λad e=>by cases e⟩,Ext.refl w⟩
 refine Xq Qyr ?_;intro w1 b j G D;refine ρ ?_;refine apo j EB (D.own (n:=0) G rfl (Nat.zero_le _)) (hr.ext j) h1 (by unfold maxLen;omega) om ?_;intro v2 w2 i C _ _;obtain⟨A2,c2,rfl,o,J⟩:=Jy i;refine ρ ?_;rw[Nat.zero_add]at i o ⊢;exact Jq ⟨⟨A2,c2,rfl,o,Rd.own i,λad e=>by subst e;exact(J ad.block rfl).1⟩,C⟩
theorem Jdt(w:World): (Instr.buildSlice 54 0 #[]).run prog w=.ok (.slice (some ⟨w.heap.size,0,none⟩) 0 0) (w.alloc (.cells ([]:List Value).toArray 112)):=kr
theorem Qyn(w:World): (Instr.buildSlice 31 0 #[]).run prog w=.ok (.slice (some ⟨w.heap.size,0,none⟩) 0 0) (w.alloc (.cells ([]:List Value).toArray 89)):=kr
theorem Qvv(hr:Rd w 1 A n cs)(h1:∀ u∈cs,u.oneCell'=true)(hb:n*4<=140737488355328):
  Ret prog 42 [.slice A n c] w λv w'=>(∃ A' c',v=.slice A' n c'/\n<=c'/\Rd w' 1 A' n cs)/\Ext w w':=by
 refine enE func42 ntmps42 ?_;refine ρ ?_;refine Kq ?_;refine ciR (λh=>?_) (λh=>?_)
 .have J:A=none:=by simpa using h
  subst J;have hn:n=0:=by
   rcases Nat.eq_zero_or_pos n with h0|h0
   .exact h0
   obtain⟨ad,O,_⟩:=hr.isome h0 om;cases O
  subst hn;refine ρ ?_;exact Jq ⟨⟨none,0,rfl,Nat.le_refl _,hr⟩,Ext.refl w⟩
 refine Xq Qyn ?_;intro w1 b j G D;refine ρ ?_;refine apo j EN (D.own (n:=0) G rfl (Nat.zero_le _)) (hr.ext j) h1 (by unfold maxLen;omega) om ?_;intro v2 w2 i C _ _;obtain⟨A2,Z,rfl,o,_⟩:=Jy i;refine ρ ?_;rw[Nat.zero_add]at i o ⊢;exact Jq ⟨⟨A2,Z,rfl,o,Rd.own i⟩,C⟩
open Go.RowKit Pl Go.Wk
variable {a n:Nat}
theorem Qlg(h:n<18446744073709551616): (Jj n).length<=2:=by grind [Nat.lt_or_ge,Jj,limbs_0,Jlp,Nat.pow_le_pow_right]
theorem Qpn(k:Nat)(hk:k<2)(h:a<4294967296^k)(c:UInt32): bits .or .u64 (a:Int) (IntKind.u64.wrap (IntKind.u64.wrap (c.toNat:Int)*2^min (32*(k:Int)).toNat IntKind.u64.bits))=((a+4294967296^k*c.toNat:Nat):Int):=by
 have D:c.toNat<4294967296:=c.toNat_lt;have j:IntKind.u64.wrap (c.toNat:Int)=(c.toNat:Int):=by rw[IntKind.wrap_u64];omega
 rw[j];match k,hk with
 | 0,_=>
  have o:a=0:=by simpa using h
  subst o;have i:(2:Int)^min (32*((0:Nat):Int)).toNat IntKind.u64.bits=1:=by decide
  rw[i,Int.mul_one,j];have:=u64_or_nat 0 c.toNat om om;grind
 | 1,_=>
  have i:(2:Int)^min (32*((1:Nat):Int)).toNat IntKind.u64.bits=4294967296:=by decide
  have C:IntKind.u64.wrap ((c.toNat:Int)*4294967296)=((c.toNat*4294967296:Nat):Int):=by rw[IntKind.wrap_u64];omega
  have u:a<4294967296:=by simpa using h
  rw[i,C,u64_or_nat _ _ om om];have:=nat_join 32 (c.toNat*4294967296) a (by simp) u;grind
theorem Qxd{v:Value}{w:World}(hv:NatV w v n)(h:n<18446744073709551616): Ret Tryz.prog 8 [v] w λr w'=>r=.tuple #[.int .u64 (n:Int),.bool true]/\w'=w:=by
 have O:=Qlg h;refine enE Tryz.func8 Tryz.ntmps8 ?_;refine clR (Uu hv) ?_;rintro J w' ⟨⟨A,rfl,D⟩,rfl⟩;refine ρ ?_;refine Jrt rfl (dF om) ?_;refine ρ ?_;refine Qr (λk=>[(4,.int .u64 ((val ((Jj n).take k):Nat):Int)),(0,.slice A (Jj n).length (Jj n).length),(12,.int .i64 ((Jj n).length:Int)),(13,.int .i64 ((k:Nat):Int))]) (λk C=>C=w'/\k<=(Jj n).length) (λk=>(Jj n).length-k) 0 sB ⟨rfl,Nat.zero_le _⟩ ?_;rintro k C ⟨rfl,Z⟩;refine ciR (λh=>?_) (λh=>?_)
 .have i:k<(Jj n).length:=by have:=oT h;omega
  refine ixR k D i ?_;refine ldR (D.cell (Zr i)) ?_;refine ρ ?_;refine Jxh rfl rfl om rfl ?_;refine ρ ?_;have j:=Jbf ((Jj n).take k);have o:((Jj n).take k).length=k:=by rw[List.length_take];omega
  rw[o]at j;have G:(Jj n).take (k+1)=(Jj n).take k++[(Jj n).getD k 0]:=by grind [List.take_succ_eq_append_getElem,List.getD,List.getElem?_eq_getElem]
  refine Qn (k+1) (Sub.cons (congrArg (λz=>some (Value.int .u64 z)) ?_) sB) ⟨rfl,om⟩ om;grind [Qpn,Il,val]
 have u:k=(Jj n).length:=by have:=oF h;omega
 subst u;refine ρ ?_;refine Yn ⟨?_,rfl⟩;rw[List.take_length,Yc]
open Go.RowKit Pl Go.Wk
variable {a b os:List UInt32}{c i m n s x y:Nat}{u v:Value}{w:World}
theorem Gz(z:Value)(n:Nat): (madeCells #[z] n).toList=List.replicate n z:=by
 unfold madeCells;apply List.ext_getElem
 repeat grind
theorem Jpn(n:Nat): List.replicate n (Value.int .u32 0)=Nc (List.replicate n 0):=by simp[Nc]
theorem Jks(l:List UInt32)(i:Nat)(c:UInt32): (Nc l).set i (.int .u32 (c.toNat:Int))=Nc (l.set i c):=by simp[Nc,List.map_set]
theorem Xbd(hx:x<4294967296)(hc:c<=1): IntKind.u64.wrap ((c:Int)+IntKind.u64.wrap (x:Int))=((c+x:Nat):Int):=by
 simp only[IntKind.wrap_u64];omega
theorem Jgk(n:Nat): (n:Int).fdiv (2^min (32:Int).toNat IntKind.u64.bits)=((n / 4294967296:Nat):Int):=by
 have e:(2:Int)^min (32:Int).toNat IntKind.u64.bits=((4294967296:Nat):Int):=by decide
 grind
def AddInv(a b:List UInt32)(i c:Nat)(os:List UInt32): Prop:=os.length=i/\c<=1/\val os+4294967296^i*c=val (a.take i)+val (b.take i)
theorem Jwb: val (a.take (i+1))=val (a.take i)+4294967296^i*(a.getD i 0).toNat:=by
 rcases Nat.lt_or_ge i a.length with h|h
 .grind [List.take_succ_eq_append_getElem,List.getD,List.getElem?_eq_getElem,Il,List.length_take,Nat.min_eq_left,val]
 rw[List.take_of_length_le om,List.take_of_length_le h];have:a.getD i 0=0:=by grind
 rw[this];simp
theorem AddInv.step(h:AddInv a b i c os)(hs:s=c+(a.getD i 0).toNat+(b.getD i 0).toNat): AddInv a b (i+1) (s / 4294967296) (os++[UInt32.ofNat s]):=by
 obtain⟨j,D,C⟩:=h;have u:(a.getD i 0).toNat<4294967296:=(a.getD i 0).toNat_lt;have o:(b.getD i 0).toNat<4294967296:=(b.getD i 0).toNat_lt;refine⟨by simp[j],om,?_⟩;rw[Il,j,Jwb,Jwb];simp only[val,UInt32.toNat_ofNat'];have e:4294967296^(i+1)*(s / 4294967296)=4294967296^i*(4294967296*(s / 4294967296)):=by grind
 rw[e];have G:4294967296^i*(s % 2^32+4294967296*0)+4294967296^i*(4294967296*(s / 4294967296))=4294967296^i*s:=by
  rw[<-Nat.mul_add];congr 1;omega
 grind
theorem Jgm(os:List UInt32)(r:Nat)(c:UInt32): (os++List.replicate (r+1) 0).set os.length c=(os++[c])++List.replicate r 0:=by grind
theorem Xbc(hs:s<9223372036854775808)(hy:y<4294967296): IntKind.u64.wrap ((s:Int)+IntKind.u64.wrap (y:Int))=((s+y:Nat):Int):=by
 simp only[IntKind.wrap_u64];omega
abbrev Vo(w:World)(base:Nat)(v:Value)(l:List UInt32): Prop:=w.ownsRow base 89 1 v l.length (Nc l)
def Fresh(w:World)(v:Value): Prop:=∀ ad n c,v=.slice (some ad) n c->w.heap.size<=ad.block
theorem NatV.grown{w w':World}{v:Value}{n:Nat}{g:Option Nat}(h:NatV w v n)(hg:w.grownBy w' g)(hf:∀ ad m c,v=.slice (some ad) m c->some ad.block≠g): NatV w' v n:=by
 obtain⟨A,c,rfl,o,j,i⟩:=h;exact⟨A,c,rfl,o,j,Rd.grown i hg (λad e=>Ne.symm (hf ad _ _ (by rw[e])))⟩
theorem Ky(hv:NatV w v n)(hu:NatV w u m)(hln:(Jj n).length<=1000)(hlm:(Jj m).length<=1000): Ret Tryz.prog 92 [v,u] w λr w'=>NatV w' r (n+m)/\Fresh w r/\Ext w w':=by
 refine enE Tryz.func92 Tryz.ntmps92 ?_;refine clR (Uu hv) ?_;rintro v' w' ⟨⟨A,rfl,ha⟩,rfl⟩;refine clR (Uu hu) ?_;rintro u' a2 ⟨⟨B,rfl,hb⟩,rfl⟩;refine ρ ?_;refine Zn (λs:(Option Addr×Nat)×(Option Addr×Nat)=>[(0,.slice s.1.1 (Jj s.1.2).length (Jj s.1.2).length),(1,.slice s.2.1 (Jj s.2.2).length (Jj s.2.2).length)])
  (λs w'=>w'=a2/\(Jj s.2.2).length<=(Jj s.1.2).length/\s.1.2+s.2.2=n+m/\Rd a2 1 s.1.1 (Jj s.1.2).length (Nc (Jj s.1.2))/\Rd a2 1 s.2.1 (Jj s.2.2).length (Nc (Jj s.2.2))/\(Jj s.1.2).length<=1000) ?_ ?_
 .refine ci (λh=>?_) (λh=>?_)
  .refine ρ ?_;exact Jp ((B,m),(A,n)) sB ⟨rfl,by grind,Nat.add_comm _ _,hb,ha,hlm⟩
  refine ρ ?_;exact Jp ((A,n),(B,m)) sB ⟨rfl,by grind,rfl,ha,hb,hln⟩
 rintro⟨⟨A,x⟩,⟨B,y⟩⟩ w' ⟨rfl,ai,Z,ha,hb,hl⟩;simp only at ai Z ha hb hl;generalize hL:(Jj x).length=L at *
 refine ρ ?_;refine mkn EN (L+1) om (by unfold maxLen;omega) ?_;intro w1 O ac an hO;have a7:Vo w1 w'.heap.size (.slice O (L+1) (L+1)) ([]++List.replicate (L+1) 0):=by
  have e:(madeCells (Value.int .u32 0).cells ((L+1)*1)).toList=Nc (List.replicate (L+1) 0):=by rw[Nat.mul_one,<-Jpn];exact Gz _ _
  grind
 refine ρ ?_;refine Xe (fun (k c:Nat) (j:List UInt32)=>[(0,.slice A L L),(1,.slice B (Jj y).length (Jj y).length),(5,.slice O (L+1) (L+1)),(6,.int .u64 (c:Int)),(24,.int .i64 (L:Int)),(25,.int .i64 (k:Int))])
  (λk c j J=>Ext w' J/\k<=L/\AddInv (Jj x) (Jj y) k c j/\Vo J w'.heap.size (.slice O (L+1) (L+1)) (j++List.replicate (L+1-k) 0)) (λk _ _=>L-k) 0 0 [] sB
  ⟨ac,Nat.zero_le _,⟨rfl,om,rfl⟩,a7⟩ ?_
 rintro k c j J ⟨G,hk,hI,a4⟩;have ae:=hI.1;have am:=hI.2.1;have a9:=ha.ext G;have a8:=hb.ext G;refine ciR (λh=>?_) (λh=>?_)
 .have ah:k<L:=by have:=oT h;omega
  have ag:((Jj x).getD k 0).toNat<4294967296:=((Jj x).getD k 0).toNat_lt;have af:((Jj y).getD k 0).toNat<4294967296:=((Jj y).getD k 0).toNat_lt;have i:(j++List.replicate (L+1-k) (0:UInt32)).length=L+1:=by simp;omega
  have store:∀ s:Nat,J.cell? (adr O k)=(Nc (j++List.replicate (L+1-k) 0))[k]?/\J.frozen? (adr O k)=false /\
    Vo (J.setCell (adr O k) (.int .u32 ((UInt32.ofNat s).toNat:Int))) w'.heap.size (.slice O (L+1) (L+1)) ((j++[UInt32.ofNat s])++List.replicate (L+1-(k+1)) 0)/\Ext w' (J.setCell (adr O k) (.int .u32 ((UInt32.ofNat s).toNat:Int))):=λs=>by
   have C:=a4;rw[Vo,i]at C;obtain⟨s1,s2,D,s4,s5⟩:=Vz C (q:=k) om (.int .u32 ((UInt32.ofNat s).toNat:Int));refine⟨s1,s2,?_,G.setCell s4 _⟩;rw[Jks,show L+1-k=(L-k)+1 by omega]at D;have e:=Jgm j (L-k) (UInt32.ofNat s);grind
  have o:(Nc (j++List.replicate (L+1-k) 0))[k]?=some (.int .u32 (((j++List.replicate (L+1-k) 0).getD k 0).toNat:Int)):=Zr (by rw[i];omega);have a5:Rd J 1 O (L+1) (Nc (j++List.replicate (L+1-k) 0)):=by have h5:=a4;rw[Vo,i]at h5;exact Rd.own h5
  refine ixR k a9 ah ?_;refine ldR (a9.cell (Zr (show k<(Jj x).length by omega))) ?_;refine ρ ?_;rw[Xbd ag am];refine ci (λh=>?_) (λh=>?_)
  .have a1:k<(Jj y).length:=by have:=oT h;omega
   refine ixR k a8 a1 ?_;refine ldR (a8.cell (Zr a1)) ?_;refine ixR k a5 om ?_;obtain⟨s1,s2,D,s4⟩:=store (c+((Jj x).getD k 0).toNat+((Jj y).getD k 0).toNat);rw[Xbc om af,Gc];refine sto (s1.trans o) s2 ?_;refine ρ ?_;refine Yu rfl rfl (by decide) rfl ?_;refine ρ ?_;refine Xj (k+1) ((c+((Jj x).getD k 0).toNat+((Jj y).getD k 0).toNat) / 4294967296) (j++[UInt32.ofNat (c+((Jj x).getD k 0).toNat+((Jj y).getD k 0).toNat)]) ?_ ⟨s4,om,hI.step rfl,D⟩ om;rw[Jgk];exact sB
  have ao:(Jj y).length<=k:=by have:=oF h;omega
  have aa:(Jj y).getD k 0=0:=by grind
  refine ixR k a5 om ?_;obtain⟨s1,s2,D,s4⟩:=store (c+((Jj x).getD k 0).toNat);rw[Gc];refine sto (s1.trans o) s2 ?_;refine ρ ?_;refine Yu rfl rfl (by decide) rfl ?_;refine ρ ?_;refine Xj (k+1) ((c+((Jj x).getD k 0).toNat) / 4294967296) (j++[UInt32.ofNat (c+((Jj x).getD k 0).toNat)]) ?_ ⟨s4,om,hI.step (by rw[aa];rfl),D⟩ om;rw[Jgk];exact sB
 have ak:k=L:=by have:=oF h;omega
 subst ak;have i:(j++List.replicate (k+1-k) (0:UInt32)).length=k+1:=by simp;omega
 have C:=a4;rw[Vo,i]at C;have o:(Nc (j++List.replicate (k+1-k) 0))[k]?=some (.int .u32 (((j++List.replicate (k+1-k) 0).getD k 0).toNat:Int)):=Zr (by rw[i];omega);obtain⟨s1,s2,D,s4,s5⟩:=Vz C (q:=k) om (.int .u32 ((UInt32.ofNat c).toNat:Int));rw[Jks,show k+1-k=0+1 by omega]at D;have e:=Jgm j 0 (UInt32.ofNat c);rw[ae,List.replicate_zero,List.append_nil]at e;rw[e]at D;have ab:=G.setCell s4 (.int .u32 ((UInt32.ofNat c).toNat:Int));refine ixR k (Rd.own C) om ?_;rw[Gc];refine sto (s1.trans o) s2 ?_;refine ρ ?_;have aj:(j++[UInt32.ofNat c]).length=k+1:=by simp;omega
 have a3:=Rd.own D;have a6:val (j++[UInt32.ofNat c])=n+m:=by
  obtain⟨i1,i2,i3⟩:=hI;rw[Il,i1];simp only[val,UInt32.toNat_ofNat'];rw[<-Z,<-Yc x,<-Yc y,<-List.take_of_length_le (show(Jj x).length<=k by omega),<-List.take_of_length_le (show(Jj y).length<=k by omega),<-i3,show c % 2^32+4294967296*0=c by omega]
 rw[<-aj]at a3 ⊢;refine cl (Jjw a3 (nR _) om) ?_;rintro t w4 ⟨rfl,rfl⟩;have:=Jxn a3 om;rw[a6]at this ⊢;refine ρ ?_;exact Jq ⟨this,λad _ _ e=>hO ad (by injection e),ab⟩
theorem Qsb(hv:NatV w v n)(hu:NatV w u m)(hln:(Jj n).length<=1000)(hlm:(Jj m).length<=1000): Ret Tryz.prog 92 [v,u] w λr w'=>NatV w' r (n+m)/\Ext w w' :=
 (Ky hv hu hln hlm).mono λ_ _ h=>⟨h.1,h.2.2⟩
open Go.RowKit Pl Go.Wk
variable {a b os:List UInt32}{c i m n s x y:Nat}
def dif(x c y:Nat): Nat:=(18446744073709551616+x-c-y) % 18446744073709551616
theorem Qhq(hx:x<4294967296)(hc:c<=1): IntKind.u64.wrap (IntKind.u64.wrap (x:Int)-(c:Int))=(dif x c 0:Int):=by
 unfold dif;simp only[IntKind.wrap_u64];omega
theorem Qhp(hx:x<4294967296)(hc:c<=1)(hy:y<4294967296): IntKind.u64.wrap ((dif x c 0:Int)-IntKind.u64.wrap (y:Int))=(dif x c y:Int):=by
 unfold dif;simp only[IntKind.wrap_u64];omega
theorem Jtp(n:Nat): (n:Int).fdiv (2^min (63:Int).toNat IntKind.u64.bits)=((n / 9223372036854775808:Nat):Int):=by
 have e:(2:Int)^min (63:Int).toNat IntKind.u64.bits=((9223372036854775808:Nat):Int):=by decide
 grind
theorem Xzb(hx:x<4294967296)(hc:c<=1)(hy:y<4294967296): dif x c y % 4294967296+y+c=x+4294967296*(dif x c y / 9223372036854775808)/\dif x c y / 9223372036854775808<=1:=by
 unfold dif;omega
def SubInv(a b:List UInt32)(i c:Nat)(os:List UInt32): Prop:=os.length=i/\c<=1/\val os+val (b.take i)=val (a.take i)+4294967296^i*c
theorem SubInv.step(h:SubInv a b i c os)(hs:s=dif (a.getD i 0).toNat c (b.getD i 0).toNat):
  SubInv a b (i+1) (s / 9223372036854775808) (os++[UInt32.ofNat s]):=by
 obtain⟨G,D,J⟩:=h;have C:(a.getD i 0).toNat<4294967296:=(a.getD i 0).toNat_lt;have u:(b.getD i 0).toNat<4294967296:=(b.getD i 0).toNat_lt;obtain⟨o,j⟩:=Xzb C D u;rw[<-hs]at o j;refine⟨by simp[G],j,?_⟩;grind [Il,Jwb,val,UInt32.toNat_ofNat',Nat.pow_succ,Nat.mul_assoc,Nat.mul_add]
theorem Qxf{v u:Value}{w:World}(hv:NatV w v n)(hu:NatV w u m)(hln:(Jj n).length<=1000):
  Ret Tryz.prog 91 [v,u] w λr w'=>(∃ x,r=.tuple #[x,.int .i64 (if n<m then 19 else 0)]/\NatV w' x (n-m)/\Fresh w x)/\Ext w w':=by
 refine enE Tryz.func91 Tryz.ntmps91 ?_;refine clR (Uu hv) ?_;rintro v' w' ⟨⟨A,rfl,ha⟩,rfl⟩;refine clR (Uu hu) ?_;rintro u' ao ⟨⟨B,rfl,hb⟩,rfl⟩;have ah:(Jj m).length<=4611686018427387904:=by obtain⟨_,_,_,_,h,_⟩:=hu;exact h
 refine clR (Gg (n:=n) (m:=m) ⟨A,_,rfl,Nat.le_refl _,om,ha⟩ ⟨B,_,rfl,Nat.le_refl _,ah,hb⟩) ?_;rintro t w' ⟨rfl,j⟩;refine ciR (λh=>?_) (λh=>?_)
 .have Z:n<m:=by
   have:=oT h;unfold Vq at this;grind
  refine ρ ?_;refine Yn ⟨⟨.slice none 0 0,?_,?_,λad _ _ e=>by cases e⟩,j⟩
  .rw[if_pos Z]
  rw[show n-m=0 by omega];exact NatV.nil _
 have aj:m<=n:=by grind [Vq,Nat.lt_or_ge]
 have aq:(Jj m).length<=(Jj n).length:=by
  rcases Nat.lt_or_ge (Jj n).length (Jj m).length with h1|h1
  .have:=Qxt h1;omega
  exact h1
 have am:=ha.ext j;have ak:=hb.ext j;generalize hL:(Jj n).length=L at *
 refine ρ ?_;refine mkn EN L om (by unfold maxLen;omega) ?_;intro w1 O a2 ap hO;have an:=j.trans a2;have af:=j.size;have a8:Vo w1 w'.heap.size (.slice O L L) ([]++List.replicate L 0):=by
  have e:(madeCells (Value.int .u32 0).cells (L*1)).toList=Nc (List.replicate L 0):=by rw[Nat.mul_one,<-Jpn];exact Gz _ _
  grind
 refine ρ ?_;refine Xe (fun (k c:Nat) (i:List UInt32)=>[(0,.slice A L L),(1,.slice B (Jj m).length (Jj m).length),(6,.slice O L L),(7,.int .u64 (c:Int)),(22,.int .i64 (L:Int)),(23,.int .i64 (k:Int))])
  (λk c i D=>Ext w' D/\k<=L/\SubInv (Jj n) (Jj m) k c i/\Vo D w'.heap.size (.slice O L L) (i++List.replicate (L-k) 0)) (λk _ _=>L-k) 0 0 [] sB
  ⟨a2,Nat.zero_le _,⟨rfl,om,rfl⟩,a8⟩ ?_
 rintro k c i D ⟨G,hk,hI,a7⟩;have a5:=hI.1;have aa:=hI.2.1;have ac:=am.ext G;have ab:=ak.ext G;refine ciR (λh=>?_) (λh=>?_)
 .have Z:k<L:=by have:=oT h;omega
  have a9:((Jj n).getD k 0).toNat<4294967296:=((Jj n).getD k 0).toNat_lt;have ag:((Jj m).getD k 0).toNat<4294967296:=((Jj m).getD k 0).toNat_lt;have o:(i++List.replicate (L-k) (0:UInt32)).length=L:=by simp;omega
  have store:∀ s:Nat,D.cell? (adr O k)=(Nc (i++List.replicate (L-k) 0))[k]?/\D.frozen? (adr O k)=false /\
    Vo (D.setCell (adr O k) (.int .u32 ((UInt32.ofNat s).toNat:Int))) w'.heap.size (.slice O L L) ((i++[UInt32.ofNat s])++List.replicate (L-(k+1)) 0)/\Ext w' (D.setCell (adr O k) (.int .u32 ((UInt32.ofNat s).toNat:Int))):=λs=>by
   have a6:=a7;rw[Vo,o]at a6;obtain⟨s1,s2,s3,s4,s5⟩:=Vz a6 (q:=k) om (.int .u32 ((UInt32.ofNat s).toNat:Int));refine⟨s1,s2,?_,G.setCell s4 _⟩;rw[Jks,show L-k=(L-(k+1))+1 by omega]at s3;have e:=Jgm i (L-(k+1)) (UInt32.ofNat s);grind
  have C:(Nc (i++List.replicate (L-k) 0))[k]?=some (.int .u32 (((i++List.replicate (L-k) 0).getD k 0).toNat:Int)):=Zr (by rw[o];omega);have a1:Rd D 1 O L (Nc (i++List.replicate (L-k) 0)):=by have h5:=a7;rw[Vo,o]at h5;exact Rd.own h5
  refine ixR k ac Z ?_;refine ldR (ac.cell (Zr (show k<(Jj n).length by omega))) ?_;refine ρ ?_;rw[Qhq a9 aa];refine ci (λh=>?_) (λh=>?_)
  .have J:k<(Jj m).length:=by have:=oT h;omega
   refine ixR k ab J ?_;refine ldR (ab.cell (Zr J)) ?_;refine ixR k a1 om ?_;obtain⟨s1,s2,s3,s4⟩:=store (dif ((Jj n).getD k 0).toNat c ((Jj m).getD k 0).toNat);rw[Qhp a9 aa ag,Gc];refine sto (s1.trans C) s2 ?_;refine ρ ?_;refine Yu rfl rfl (by decide) rfl ?_;refine ρ ?_;refine Xj (k+1) (dif ((Jj n).getD k 0).toNat c ((Jj m).getD k 0).toNat / 9223372036854775808) (i++[UInt32.ofNat (dif ((Jj n).getD k 0).toNat c ((Jj m).getD k 0).toNat)]) ?_ ⟨s4,om,hI.step rfl,s3⟩ om;rw[Jtp];exact sB
  have aj:(Jj m).length<=k:=by have:=oF h;omega
  have ae:(Jj m).getD k 0=0:=by grind
  refine ixR k a1 om ?_;obtain⟨s1,s2,s3,s4⟩:=store (dif ((Jj n).getD k 0).toNat c 0);rw[Gc];refine sto (s1.trans C) s2 ?_;refine ρ ?_;refine Yu rfl rfl (by decide) rfl ?_;refine ρ ?_;refine Xj (k+1) (dif ((Jj n).getD k 0).toNat c 0 / 9223372036854775808) (i++[UInt32.ofNat (dif ((Jj n).getD k 0).toNat c 0)]) ?_ ⟨s4,om,hI.step (by rw[ae];rfl),s3⟩ om;rw[Jtp];exact sB
 have ai:k=L:=by have:=oF h;omega
 subst ai;have a4:Rd D 1 O i.length (Nc i):=by
  have:=Rd.own (show D.ownsRow w'.heap.size 89 1 (.slice O k k) k (Nc i) by grind);rw[a5];exact this
 have a3:val i=n-m:=by
  obtain⟨i1,i2,i3⟩:=hI;rw[List.take_of_length_le (show(Jj n).length<=k by omega),List.take_of_length_le (show(Jj m).length<=k by omega),Yc,Yc]at i3;have hv:=Jbf i;rw[i1]at hv;rcases Nat.eq_zero_or_pos c with h0|h0
  repeat grind
 refine ρ ?_;rw[<-a5];refine cl (Jjw a4 (nR _) om) ?_;rintro t w4 ⟨rfl,rfl⟩;have:=Jxn a4 om;rw[a3]at this ⊢;refine ρ ?_;refine Yn ⟨⟨_,?_,this,λad _ _ e=>nL af (hO ad (by injection e))⟩,j.trans G⟩;rw[if_neg om]
end Go.Proofs.YtcdccafgdnblaaaGreatDoor
namespace Go.Proofs.YtcdccafgdnblaaaGreatDoor
namespace Pl
structure V where
 kind: Int
 num:Int
 str:ByteArray
def V.bytes(v:V): List UInt8:=v.str.data.toList
def V.cells(v:V): List Value:=[.int .i64 v.kind,.int .i64 v.num,.string v.str]
def V.val(v:V): Value:=.agg #[.int .i64 v.kind,.int .i64 v.num,.string v.str]
end Pl
open Go.RowKit Pl Go.Wk _root_.Go.Proofs.Tryz
attribute [local irreducible] WC WL QX WD WDB
def V0: V:=⟨0,0,⟨#[]⟩⟩
def Jo(r:List V): List Value:=r.flatMap V.cells
abbrev RdR(w:World)(A:Option Addr)(r:List V): Prop:=Rd w 3 A r.length (Jo r)
abbrev RdB(w:World)(A:Option Addr)(ds:List Bool): Prop:=Rd w 1 A ds.length (ds.map Value.bool)
theorem Jhf(r:List V): (Jo r).length=r.length*3:=by
 induction r with
 | nil=>rfl
 | cons v r ih=>simp only[Jo,List.flatMap_cons,List.length_append,V.cells,List.length_cons,List.length_nil]at ih ⊢;omega
theorem Jhg: ∀(r:List V) (i j:Nat),i<r.length->j<3->(Jo r)[i*3+j]?=(r.getD i V0).cells[j]?
 | [],i,j,h,_=>by simp at h
 | v::r,0,j,_,hj=>by
  simp only[Jo,List.flatMap_cons,Nat.zero_mul,Nat.zero_add,List.getD_cons_zero];grind [List.getElem?_append_left,V.cells]
 | v::r,i+1,j,h,hj=>by
  have ih:=Jhg r i j (by simpa using h) hj;grind [Jo,List.getD_cons_succ,List.getElem?_append_right,V.cells]
theorem RdR.cell{w:World}{A:Option Addr}{r:List V}(h:RdR w A r){i j:Nat}{u:Value}(hi:i<r.length)(hu:(r.getD i V0).cells[j]?=some u): w.cell? ((adr A (i*3)).add j)=some u:=by grind [List.getElem?_eq_some_iff.1,V.cells,Xx,Rd.cell,Jhg]
theorem RdB.cell{w:World}{A:Option Addr}{ds:List Bool}(h:RdB w A ds){i:Nat}(hi:i<ds.length): w.cell? (adr A i)=some (.bool (ds.getD i false)) :=
 Rd.cell h (by grind)
theorem V.one(v:V): ∀ u∈v.cells,u.oneCell'=true:=by
 intro u i;simp[V.cells]at i;rcases i with rfl|rfl|rfl<;>rfl
theorem Jhd(r:List V): ∀ u∈Jo r,u.oneCell'=true:=by
 intro u j;obtain⟨v,_,i⟩:=List.mem_flatMap.1 j;simp[V.cells]at i;rcases i with rfl|rfl|rfl<;>rfl
theorem Qmk(a b:List V): Jo (a++b)=Jo a++Jo b:=by simp[Jo]
def cmpV(a b:V): Int:=if a.kind≠b.kind then sgn a.kind b.kind else if a.num≠b.num then sgn a.num b.num else Lib.compareBytes a.bytes b.bytes
def neg(d:Bool)(c:Int): Int:=if d then -c else c
def Jc: List V->List V->List Bool->Int
 | [],[],_=>0
 | [],_::_,_=>-1
 | _::_,[],_=>1
 | x::a,y::b,ds=>if cmpV x y=0 then Jc a b (ds.drop 1) else neg (ds.getD 0 false) (cmpV x y)
theorem Xzm(a b:ByteArray)(w:World): Ret prog 171 [.string a,.string b] w λv w'=>v=.int .i64 (Lib.compareBytes a.data.toList b.data.toList)/\w'=w:=by
 refine enE func171 ntmps171 ?_;refine ρ ?_;refine wext (vs:=[.string a,.string b]) (v:=.int .i64 (Lib.compareBytes a.data.toList b.data.toList)) (w':=w) ?_ ?_
 .rw[run_callFunc_extern func190 kr kr kr (e:=Extern.BytealgCompare.compare) kr,Lib.run_compareString];rfl
 refine ρ ?_;exact Jq ⟨rfl,rfl⟩
theorem Qhr(a b:ByteArray)(w:World): Ret prog 152 [.string a,.string b] w λv w'=>v=.int .i64 (Lib.compareBytes a.data.toList b.data.toList)/\w'=w:=by
 refine enE func152 ntmps152 ?_;refine clR (Xzm a b w) ?_;rintro v w' ⟨rfl,rfl⟩;refine ρ ?_;exact Jq ⟨rfl,rfl⟩
theorem Jxl(a b:V)(w:World): Ret prog 125 [a.val,b.val] w λr w'=>r=.int .i64 (cmpV a b)/\Ext w w':=by
 refine enE func125 ntmps125 ?_;refine bxR ?_;intro w1 b1 u O i;refine bxR ?_;intro Z b2 o J j;have i:=i.ext o;have C:=u.trans o;refine ldR (i.at rfl) ?_;refine ldR (j.at rfl) ?_;refine ciR (λG=>?_) (λG=>?_)
 .refine ldR (i.at rfl) ?_;refine ldR (j.at rfl) ?_;refine clR (Qwx _ _ _) ?_;rintro t D ⟨rfl,rfl⟩;refine ρ ?_;refine Jq ⟨?_,C⟩;grind [cmpV]
 refine ldR (i.at rfl) ?_;refine ldR (j.at rfl) ?_;refine ciR (λhn=>?_) (λhn=>?_)
 .refine ldR (i.at rfl) ?_;refine ldR (j.at rfl) ?_;refine clR (Xzl _ _ _) ?_;rintro t D ⟨rfl,rfl⟩;refine ρ ?_;refine Jq ⟨?_,C⟩;grind [cmpV]
 refine ldR (i.at rfl) ?_;refine ldR (j.at rfl) ?_;refine clR (Qhr _ _ _) ?_;rintro t D ⟨rfl,rfl⟩;refine ρ ?_;refine Jq ⟨?_,C⟩;rw[cmpV,if_neg (by simpa using G),if_neg (by simpa using hn)];rfl
end Go.Proofs.YtcdccafgdnblaaaGreatDoor
namespace Go.Proofs.YtcdccafgdnblaaaGreatDoor
open Pl
variable {α β:Type}
structure PreC{α:Type}(f:α->α->Int): Prop where
 anti:∀ a b,f b a = - f a b
 trans:∀ a b c,f a b<=0->f b c<=0->f a c<=0
theorem PreC.refl{f:α->α->Int}(h:PreC f)(a:α): f a a=0:=by have:=h.anti a a;omega
structure Cmp{α:Type}(f:α->α->Int): Prop where
 anti:∀ a b,f b a = - f a b
 zero:∀ a b,f a b=0->a=b
 trans:∀ a b c,f a b<=0->f b c<=0->f a c<=0
theorem Cmp.pre{f:α->α->Int}(h:Cmp f)(g:β->α): PreC λa b=>f (g a) (g b):=⟨λa b=>h.anti _ _,λa b c=>h.trans _ _ _⟩
section
variable {α:Type} {f:α->α->Int}
theorem Cmp.refl(h:Cmp f)(a:α): f a a=0:=by have:=h.anti a a;omega
theorem Cmp.lt_le(h:Cmp f){a b c:α}(h1:f a b<0)(h2:f b c<=0): f a c<0:=by
 have i:=h.trans a b c om h2;rcases Int.lt_or_eq_of_le i with h4|h4
 .exact h4
 have:=h.zero _ _ h4;subst this;have:=h.anti a b;omega
theorem Cmp.le_lt(h:Cmp f){a b c:α}(h1:f a b<=0)(h2:f b c<0): f a c<0:=by
 have i:=h.trans a b c h1 om;rcases Int.lt_or_eq_of_le i with h4|h4
 .exact h4
 have:=h.zero _ _ h4;subst this;have:=h.anti a b;omega
theorem Cmp.lt_trans(h:Cmp f){a b c:α}(h1:f a b<0)(h2:f b c<0): f a c<0:=h.lt_le h1 om
theorem Cmp.tot(h:Cmp f)(a b:α): f a b<0∨a=b∨f b a<0:=by
 have i:=h.anti a b;rcases Int.lt_trichotomy (f a b) 0 with h2|h2|h2
 .exact .inl h2
 .exact .inr (.inl (h.zero _ _ h2))
 repeat grind
theorem Cmp.flip(h:Cmp f): Cmp λa b=>- f a b :=
 ⟨λa b=>by rw[h.anti a b],λa b h0=>h.zero a b om,λa b c j i=>by
  have C:=h.anti a b;have u:=h.anti b c;have o:=h.anti a c;have:=h.trans c b a om om;omega⟩
end
theorem cmp_sgn: Cmp sgn:=by
 refine⟨λa b=>?_,λa b h=>?_,λa b c j i=>?_⟩
 .unfold sgn;split<;>split<;>omega
 .unfold sgn at h;split at h;repeat grind
 repeat grind [sgn]
theorem Jts(a b:Int): sgn a b = -1∨sgn a b=0∨sgn a b=1:=by
 unfold sgn;grind
theorem Qyf: ∀ x y:List UInt8,Lib.compareBytes y x = - Lib.compareBytes x y
 | [],[]=>rfl
 | [],_::_=>rfl
 | _::_,[]=>rfl
 | a::x,b::y=>by
  simp only[Lib.compareBytes];have ih:=Qyf x y;grind
theorem Qyc: ∀ x y:List UInt8,Lib.compareBytes x y=0->x=y
 | [],[],_=>rfl
 | [],_::_,h=>by simp[Lib.compareBytes]at h
 | _::_,[],h=>by simp[Lib.compareBytes]at h
 | a::x,b::y,h=>by
  simp only[Lib.compareBytes,UInt8.lt_iff_toNat_lt]at h;split at h
  .cases h
  split at h
  .cases h
  rw[Qyc x y h,UInt8.toNat_inj.1 (show a.toNat=b.toNat by omega)]
theorem Qyd: ∀ x y z:List UInt8,Lib.compareBytes x y<=0->Lib.compareBytes y z<=0->Lib.compareBytes x z<=0
 | [],_,[],_,_=>by simp[Lib.compareBytes]
 | [],_,_::_,_,_=>by simp[Lib.compareBytes]
 | _::_,[],_,h,_=>by simp[Lib.compareBytes]at h
 | _::_,_::_,[],_,h=>by simp[Lib.compareBytes]at h
 | a::x,b::y,c::z,h1,h2=>by
  simp only[Lib.compareBytes,UInt8.lt_iff_toNat_lt]at *;split at h1
  .grind
  split at h1
  .grind
  split at h2
  .grind
  split at h2
  .grind
  rw[if_neg om,if_neg om];exact Qyd x y z h1 h2
theorem cb_3: ∀ x y:List UInt8,Lib.compareBytes x y = -1∨Lib.compareBytes x y=0∨Lib.compareBytes x y=1
 | [],[]=>by simp[Lib.compareBytes]
 | [],_::_=>by simp[Lib.compareBytes]
 | _::_,[]=>by simp[Lib.compareBytes]
 | a::x,b::y=>by
  simp only[Lib.compareBytes];split
  .simp
  split
  .simp
  exact cb_3 x y
theorem V.ext{a b:V}(h1:a.kind=b.kind)(h2:a.num=b.num)(h3:a.bytes=b.bytes): a=b:=by
 obtain⟨k,n,s⟩:=a;obtain⟨o,j,i⟩:=b;simp only[V.bytes]at *;obtain⟨d⟩:=s;obtain⟨u⟩:=i;simp only at h1 h2 h3;rw[h1,h2,Array.toList_inj.1 h3]
theorem Jbp{a b:Int}(h:a≠b): sgn a b≠0:=λe=>h (cmp_sgn.zero _ _ e)
theorem Xkg(a b:V): cmpV a b = -1∨cmpV a b=0∨cmpV a b=1:=by
 unfold cmpV;split
 .exact Jts _ _
 split
 repeat grind [Jts,cb_3]
theorem cmp_V: Cmp cmpV:=by
 refine⟨λa b=>?_,λa b h=>?_,λa b c j i=>?_⟩
 .unfold cmpV;by_cases h:a.kind=b.kind
  .rw[if_neg (not_not_intro h),if_neg (not_not_intro h.symm)];by_cases i:a.num=b.num
   .grind [Qyf]
   rw[if_pos i,if_pos (Ne.symm i)];exact cmp_sgn.anti _ _
  rw[if_pos h,if_pos (Ne.symm h)];exact cmp_sgn.anti _ _
 .unfold cmpV at h;split at h
  .grind [Jbp]
  rename_i j;split at h
  repeat grind [Jbp,V.ext,Qyc]
 unfold cmpV at *;by_cases k1:a.kind=b.kind<;>by_cases k2:b.kind=c.kind
 .have C:a.kind=c.kind:=k1.trans k2;rw[if_neg (by simp[k1])]at j;rw[if_neg (by simp[k2])]at i;rw[if_neg (by simp[C])];by_cases n1:a.num=b.num<;>by_cases n2:b.num=c.num
  .grind [Qyd]
  .grind
  .grind
  rw[if_pos n1]at j;rw[if_pos n2]at i;have u:=cmp_sgn.lt_le (a:=a.num) (c:=c.num) (by grind [Jbp]) i;have o:a.num≠c.num:=by intro e;rw[e,cmp_sgn.refl]at u;omega
  rw[if_pos o];omega
 .grind
 .grind
 rw[if_pos k1]at j;rw[if_pos k2]at i;have u:=cmp_sgn.lt_le (a:=a.kind) (c:=c.kind) (by grind [Jbp]) i;have o:a.kind≠c.kind:=by intro e;rw[e,cmp_sgn.refl]at u;omega
 rw[if_pos o];omega
theorem Vn(a:V): cmpV a a=0:=cmp_V.refl a
theorem Jlg(d:Bool): neg d 0=0:=by cases d<;>rfl
theorem Jqz(d:Bool): Cmp λa b=>neg d (cmpV a b):=by
 cases d
 .exact cmp_V
 exact cmp_V.flip
theorem Jnn: ∀(a b:List V) (ds:List Bool),Jc b a ds = - Jc a b ds
 | [],[],_=>rfl
 | [],_::_,_=>rfl
 | _::_,[],_=>rfl
 | x::a,y::b,ds=>by
  simp only[Jc];have h:=cmp_V.anti x y;by_cases e:cmpV x y=0
  .rw[if_pos e,if_pos om];exact Jnn a b _
  rw[if_neg e,if_neg om];exact(Jqz _).anti x y
theorem Jdq: ∀(a b:List V) (ds:List Bool),Jc a b ds=0->a=b
 | [],[],_,_=>rfl
 | [],_::_,_,h=>by simp[Jc]at h
 | _::_,[],_,h=>by simp[Jc]at h
 | x::a,y::b,ds,h=>by
  simp only[Jc]at h;split at h
  .rename_i e;rw[cmp_V.zero _ _ e,Jdq a b _ h]
  rename_i e;exact absurd (congrArg (cmpV x) ((Jqz _).zero x y h)) (by grind [Vn])
theorem Qvh: ∀(a b c:List V) (ds:List Bool),Jc a b ds<=0->Jc b c ds<=0->Jc a c ds<=0
 | [],_,[],_,_,_=>by simp[Jc]
 | [],_,_::_,_,_,_=>by simp[Jc]
 | _::_,[],_,_,h,_=>by simp[Jc]at h
 | _::_,_::_,[],_,_,h=>by simp[Jc]at h
 | x::a,y::b,z::c,ds,h1,h2=>by
  simp only[Jc]at *;have N:=Jqz (ds.getD 0 false);by_cases e1:cmpV x y=0
  .rw[if_pos e1]at h1;rw[cmp_V.zero _ _ e1];by_cases e2:cmpV y z=0
   .rw[if_pos e2]at h2 ⊢;exact Qvh a b c _ h1 h2
   repeat grind
  rw[if_neg e1]at h1;by_cases e2:cmpV y z=0
  .rw[<-cmp_V.zero _ _ e2,if_neg e1];exact h1
  rw[if_neg e2]at h2;have hne:neg (ds.getD 0 false) (cmpV x y)≠0:=λe=>e1 (by have:=N.zero x y e;grind [Vn]);have h3:=N.lt_le (a:=x) (b:=y) (c:=z) om h2;grind [cmpV,Jlg]
theorem Iy(ds:List Bool): Cmp λa b=>Jc a b ds:=⟨λa b=>Jnn a b ds,λa b h=>Jdq a b ds h,λa b c j i=>Qvh a b c ds j i⟩
theorem Ur(a:List V)(ds:List Bool): Jc a a ds=0:=(Iy ds).refl a
open Go.RowKit Pl Go.Wk _root_.Go.Proofs.Tryz
attribute [local irreducible] WC WL QX WD WDB
variable {ds:List Bool}{a b:List V}{k:Nat}{va vb vd:Value}{w:World}
def RowV(w:World)(v:Value)(r:List V): Prop:=∃ A c,v=.slice A r.length c/\r.length<=c/\r.length<=1100000/\RdR w A r
def BoolsV(w:World)(v:Value)(ds:List Bool): Prop:=∃ A c,v=.slice A ds.length c/\ds.length<=c/\ds.length<=1100000/\RdB w A ds
theorem RowV.ext{w w':World}{v:Value}{r:List V}(h:RowV w v r)(hx:Ext w w'): RowV w' v r:=by
 obtain⟨A,c,u,o,j,i⟩:=h;exact⟨A,c,u,o,j,i.ext hx⟩
theorem BoolsV.ext{w w':World}{v:Value}{r:List Bool}(h:BoolsV w v r)(hx:Ext w w'): BoolsV w' v r:=by
 obtain⟨A,c,u,o,j,i⟩:=h;exact⟨A,c,u,o,j,i.ext hx⟩
theorem RowV.nil(w:World)(A:Option Addr)(c:Nat): RowV w (.slice A 0 c) []:=⟨A,c,rfl,by simp,by simp,Rd.nil⟩
theorem BoolsV.nil(w:World)(A:Option Addr)(c:Nat): BoolsV w (.slice A 0 c) []:=⟨A,c,rfl,by simp,by simp,Rd.nil⟩
theorem Xkm(ha:k<a.length)(hb:k<b.length): Jc (a.drop k) (b.drop k) (ds.drop k) =
  if cmpV (a.getD k V0) (b.getD k V0)=0 then Jc (a.drop (k+1)) (b.drop (k+1)) (ds.drop (k+1)) else neg (ds.getD k false) (cmpV (a.getD k V0) (b.getD k V0)):=by grind [List.drop_eq_getElem_cons,Jc,V0,List.getD,List.getElem?_eq_getElem,List.drop_drop]
theorem Xkk(hk:a.length<=k∨b.length<=k)(hka:k<=a.length)(hkb:k<=b.length): Jc (a.drop k) (b.drop k) (ds.drop k)=if a.length<b.length then -1 else if b.length<a.length then 1 else 0:=by
 rcases Nat.lt_trichotomy a.length b.length with h|h|h
 .rw[if_pos h,List.drop_of_length_le (by omega:a.length<=k),List.drop_eq_getElem_cons (by omega:k<b.length)];rfl
 .rw[if_neg om,if_neg om,List.drop_of_length_le (by omega:a.length<=k),List.drop_of_length_le (by omega:b.length<=k)];rfl
 rw[if_neg om,if_pos h,List.drop_of_length_le (by omega:b.length<=k),List.drop_eq_getElem_cons (by omega:k<a.length)];rfl
theorem Qdk(a b:V): IntKind.i64.wrap (0-cmpV a b)=neg true (cmpV a b):=by
 rcases Xkg a b with h|h|h<;>rw[h]<;>rfl
theorem Qsh(n m:Nat): (if(m:Int)<(n:Int) then(m:Int) else(n:Int))=((min n m:Nat):Int):=by split<;>omega
theorem Qwz(ha:RowV w va a)(hb:RowV w vb b)(hd:BoolsV w vd ds):
  Ret prog 93 [va,vb,vd] w λr w'=>r=.int .i64 (Jc a b ds)/\Ext w w':=by
 obtain⟨A,ac,rfl,aj,ai,ha⟩:=ha;obtain⟨B,bc,rfl,ah,ag,hb⟩:=hb;obtain⟨D,dc,rfl,ae,ad,hd⟩:=hd;refine enE func93 ntmps93 ?_;refine ρ ?_;rw[Qsh];refine Qr (λk=>[(0,.slice A a.length ac),(1,.slice B b.length bc),(2,.slice D ds.length dc),(13,.int .i64 ((min a.length b.length:Nat):Int)),(14,.int .i64 ((k:Nat):Int))])
  (λk w'=>Ext w w'/\k<=a.length/\k<=b.length/\Jc a b ds=Jc (a.drop k) (b.drop k) (ds.drop k)) (λk=>a.length-k) 0 sB ⟨Ext.refl w,Nat.zero_le _,Nat.zero_le _,rfl⟩ ?_
 rintro k w1 ⟨C,a8,a7,he⟩;have aa:=ha.ext C;have a9:=hb.ext C;have af:=hd.ext C;refine ρ ?_;have a6:(a.length<=k∨b.length<=k)->Jc a b ds=if a.length<b.length then -1 else if b.length<a.length then 1 else 0:=λh=>by rw[he,Xkk h a8 a7]
 refine ci (λh=>?_) (λh=>?_)
 .have ab:k<min a.length b.length:=by have:=oT h;omega
  have J:k<a.length:=om
  have G:k<b.length:=om
  refine drR (scq 10 [8]) ?_;have o:Ext w1 w1.drew:=(Ext.refl w1).drew;have a5:=aa.ext o;have a4:=a9.ext o;refine Ve 3 k a5 J ?_;refine Qz (λj u hu=>RdR.cell a5 J hu) ?_;refine Ve 3 k a4 G ?_;refine Qz (λj u hu=>RdR.cell a4 G hu) ?_;refine Jh (Jxl (a.getD k V0) (b.getD k V0) _) ?_;rintro x w2 ⟨rfl,Z⟩;refine⟨Z,?_⟩;have i:Ext w w2:=(C.trans o).trans Z;have a3:=hd.ext i;refine ρd ?_;refine ρ ?_;have step:=Xkm (ds:=ds) J G;refine ci (λh0=>?_) (λh0=>?_)
  .refine ρ ?_;refine Qn (k+1) sB ⟨i,om,om,?_⟩ om;grind
  have a1:=Zk h0;refine ρ ?_;refine ki 32 (λh=>?_) (λh=>?_)
  .have a2:k<ds.length:=by have:=oT h;omega
   refine ixR k a3 a2 ?_;refine ldR (RdB.cell a3 a2) ?_;refine ciR (λh1=>?_) (λh1=>?_)
   .refine ρ ?_;refine Jq ⟨?_,i⟩;grind [Qdk]
   refine ρ ?_;refine Jq ⟨?_,i⟩;rw[he,step,h1,if_neg a1];rfl
  have h1:ds.getD k false=false:=by grind
  refine ρ ?_;refine Jq ⟨?_,i⟩;rw[he,step,h1,if_neg a1];rfl
 have O:=a6 (by grind);refine ciR (λh=>?_) (λh1=>?_)
 .refine ρ ?_;refine Jq ⟨?_,C⟩;rw[O,if_pos (by grind)]
 refine ciR (λh=>?_) (λh2=>?_)
 .refine ρ ?_;refine Jq ⟨?_,C⟩;rw[O,if_neg (by grind),if_pos (by grind)]
 refine ρ ?_;refine Jq ⟨?_,C⟩;rw[O,if_neg (by grind),if_neg (by grind)]
theorem Qjh(ha:RowV w va a)(hb:RowV w vb b):
  Ret prog 45 [va,vb] w λr w'=>r=.int .i64 (Jc a b [])/\Ext w w':=by
 refine enE func45 ntmps45 ?_;refine clR (Qwz ha hb (BoolsV.nil w none 0)) ?_;rintro v j ⟨rfl,i⟩;refine ρ ?_;exact Jq ⟨rfl,i⟩
theorem Xkl(a b:List V)(ds:List Bool): (Jc a b ds == 0)=true↔a=b:=by
 constructor
 .intro h;exact Jdq _ _ _ (Zf h)
 repeat grind [Ur]
instance:DecidableEq V:=λa b=>if h:cmpV a b=0 then isTrue (cmp_V.zero _ _ h) else isFalse (λe=>h (by rw[e];exact Vn b))
theorem Xkj(a b:List V)(ds:List Bool): (Jc a b ds == 0)=decide (a=b):=by
 rw[Bool.eq_iff_iff,Xkl,decide_eq_true_iff]
theorem Jwp(ha:RowV w va a)(hb:RowV w vb b):
  Ret prog 15 [va,vb] w λr w'=>r=.bool (decide (a=b))/\Ext w w':=by
 refine enE func15 ntmps15 ?_;refine clR (Qjh ha hb) ?_;rintro v j ⟨rfl,i⟩;refine ρ ?_;refine Jq ⟨?_,i⟩;rw[Xkj]
open Go.RowKit Pl Go.Wk _root_.Go.Proofs.Tryz
attribute [local irreducible] WP
variable {j k x:Nat}
def Je(x:Nat): Nat:=if x=0 then 0 else Nat.log2 x+1
theorem Jvl: x<2^Je x:=by
 unfold Je;split
 .omega
 exact Nat.lt_log2_self
theorem Jlr(h:x≠0): 0<Je x/\2^(Je x-1)<=x:=by grind [Je,Nat.log2_self_le]
theorem Gl(h:x<2^k): Je x<=k:=by
 unfold Je;split
 .omega
 rename_i h0;have:=(Nat.log2_lt h0).2 h;omega
theorem Qtj(h1:2^k<=x)(h2:x<2^(k+1)): Je x=k+1:=by
 have j:=Gl h2;have i:=Jvl (x:=x);rcases Nat.lt_or_ge (Je x) (k+1) with h|h
 .have:=Nat.pow_le_pow_right (show 0<2 by omega) (show Je x<=k by omega);omega
 omega
theorem Jvk(h:2^k<=x): Je x=k+Je (x / 2^k):=by
 have hp:0<2^k:=Nat.pow_pos om;have i:x / 2^k≠0:=by
  have:=(Nat.le_div_iff_mul_le hp).2 (show 1*2^k<=x by omega);omega
 obtain⟨a,b⟩:=Jlr i;have c:=Jvl (x:=x / 2^k);generalize Je (x / 2^k)=m at *
 obtain⟨m,rfl⟩:∃ j,m=j+1:=⟨m-1,om⟩;rw[Nat.add_sub_cancel]at b;have:=Qtj (x:=x) (k:=k+m) (by grind [Nat.pow_add,Nat.le_div_iff_mul_le,Nat.mul_comm]) (by
  rw[show k+m+1=(m+1)+k by omega,Nat.pow_add];exact(Nat.div_lt_iff_lt_mul hp).1 c)
 omega
theorem tabB(s:ByteArray)(h:((List.range 256).all λj=>(s.data.toList.getD j 0).toNat == Je j)=true)(hj:j<256): (s.data.toList.getD j 0).toNat=Je j:=by grind
theorem Jwm(y k m:Nat): ((y:Int)).fdiv (2^(min ((k:Nat):Int).toNat m))=((y / 2^(min k m):Nat):Int):=by grind
theorem Qtk(x:Nat)(hx:x<18446744073709551616)(w:World): Ret prog 161 [.int .u64 (x:Int)] w λv w'=>v=.int .i64 (Je x:Int)/\w'=w:=by
 refine enE func161 ntmps161 ?_;refine ρ ?_;refine Jjv (fun (y s:Nat)=>[(0,.int .u64 (y:Int)),(2,.int .i64 (s:Int))]) (λy s w'=>w'=w/\Je x=s+Je y/\y<4294967296/\s<=32) ?_ ?_
 .refine ci (λh=>?_) (λh=>?_)
  .have o:=oT h;refine ρ ?_;refine Yu rfl rfl (by decide) rfl ?_;refine kv 6 (u:=.int .u64 ((x / 2^32:Nat):Int)) (congrArg (Value.int .u64) (Jwm x 32 64)) ?_;refine ρ ?_;have e:=Jvk (x:=x) (k:=32) om;exact Vs (x / 2^32) 32 sO ⟨rfl,e,om,om⟩
  have o:=oF h;refine ρ ?_;exact Vs x 0 sO ⟨rfl,om,om,om⟩
 rintro j G w ⟨rfl,e0,b0,c0⟩;refine ρ ?_;refine Jjv (fun (y s:Nat)=>[(0,.int .u64 (y:Int)),(2,.int .i64 (s:Int))]) (λy s w'=>w'=w/\Je x=s+Je y/\y<65536/\s<=48) ?_ ?_
 .refine ci (λh=>?_) (λh=>?_)
  .have o:=oT h;refine ρ ?_;refine Yu rfl rfl (by decide) rfl ?_;refine kv 10 (u:=.int .u64 ((j / 2^16:Nat):Int)) (congrArg (Value.int .u64) (Jwm j 16 64)) ?_;refine ρ ?_;have e:=Jvk (x:=j) (k:=16) om;exact Vs (j / 2^16) (G+16) sO ⟨rfl,om,om,om⟩
  have o:=oF h;refine ρ ?_;exact Vs j G sO ⟨rfl,om,om,om⟩
 rintro i D w ⟨rfl,e1,b1,c1⟩;refine ρ ?_;refine Jjv (fun (y s:Nat)=>[(0,.int .u64 (y:Int)),(2,.int .i64 (s:Int))]) (λy s w'=>w'=w/\Je x=s+Je y/\y<256/\s<=56) ?_ ?_
 .refine ci (λh=>?_) (λh=>?_)
  .have o:=oT h;refine ρ ?_;refine Yu rfl rfl (by decide) rfl ?_;refine kv 16 (u:=.int .u64 ((i / 2^8:Nat):Int)) (congrArg (Value.int .u64) (Jwm i 8 64)) ?_;refine ρ ?_;have e:=Jvk (x:=i) (k:=8) om;exact Vs (i / 2^8) (D+8) sO ⟨rfl,om,om,om⟩
  have o:=oF h;refine ρ ?_;exact Vs i D sO ⟨rfl,om,om,om⟩
 rintro C O w ⟨rfl,Z,J,c2⟩;refine ρ ?_;refine Jrb Im C rfl rfl rfl rfl ?_ ?_ rfl ?_
 .rw[IntKind.wrap_u8];omega
 .exact nM J (by decide)
 refine kv 22 (u:=.int .u8 (Je C:Int)) (congrArg (λz:Nat=>Value.int .u8 (z:Int)) (tabB _ kr J)) ?_;have:=Gl (x:=C) (k:=8) om;refine ρ ?_;refine Jq ⟨?_,rfl⟩;grind [Jqv,Je]
theorem Qzg(x:Nat)(hx:x<4294967296)(w:World): Ret prog 113 [.int .u32 (x:Int)] w λv w'=>v=.int .i64 (Je x:Int)/\w'=w:=by
 refine enE func113 ntmps113 ?_;refine ρ ?_;refine Jjv (fun (y s:Nat)=>[(0,.int .u32 (y:Int)),(2,.int .i64 (s:Int))]) (λy s w'=>w'=w/\Je x=s+Je y/\y<65536/\s<=16) ?_ ?_
 .refine ci (λh=>?_) (λh=>?_)
  .have o:=oT h;refine ρ ?_;refine Yu rfl rfl (by decide) rfl ?_;refine kv 6 (u:=.int .u32 ((x / 2^16:Nat):Int)) (congrArg (Value.int .u32) (Jwm x 16 32)) ?_;refine ρ ?_;have e:=Jvk (x:=x) (k:=16) om;exact Vs (x / 2^16) 16 sO ⟨rfl,e,om,om⟩
  have o:=oF h;refine ρ ?_;exact Vs x 0 sO ⟨rfl,om,om,om⟩
 rintro i C w ⟨rfl,O,b0,c0⟩;refine ρ ?_;refine Jjv (fun (y s:Nat)=>[(0,.int .u32 (y:Int)),(2,.int .i64 (s:Int))]) (λy s w'=>w'=w/\Je x=s+Je y/\y<256/\s<=24) ?_ ?_
 .refine ci (λh=>?_) (λh=>?_)
  .have o:=oT h;refine ρ ?_;refine Yu rfl rfl (by decide) rfl ?_;refine kv 10 (u:=.int .u32 ((i / 2^8:Nat):Int)) (congrArg (Value.int .u32) (Jwm i 8 32)) ?_;refine ρ ?_;have e:=Jvk (x:=i) (k:=8) om;exact Vs (i / 2^8) (C+8) sO ⟨rfl,om,om,om⟩
  have o:=oF h;refine ρ ?_;exact Vs i C sO ⟨rfl,om,om,om⟩
 rintro j G w ⟨rfl,J,D,Z⟩;refine ρ ?_;refine Jrb Im j rfl rfl rfl rfl ?_ ?_ rfl ?_
 .rw[IntKind.wrap_u8];omega
 .exact nM D (by decide)
 refine kv 16 (u:=.int .u8 (Je j:Int)) (congrArg (λz:Nat=>Value.int .u8 (z:Int)) (tabB _ kr D)) ?_;have:=Gl (x:=j) (k:=8) om;refine ρ ?_;refine Jq ⟨?_,rfl⟩;grind [Jqv,Je]
theorem Qyz(x:Nat)(h:x<18446744073709551616)(w:World): Ret prog 127 [.int .u64 (x:Int)] w λv w'=>v=.int .i64 (Je x:Int)/\w'=w:=by
 refine enE func127 ntmps127 ?_;refine clR (Qtk x h w) ?_;rintro v w' ⟨rfl,rfl⟩;refine ρ ?_;exact Jq ⟨rfl,rfl⟩
end Go.Proofs.YtcdccafgdnblaaaGreatDoor
namespace Go.Proofs.YtcdccafgdnblaaaGreatDoor
variable {a a' b b' i j:Nat}
section
variable {α:Type} (z:α)
def swp(q:List α)(i j:Nat): List α:=(q.set i (q.getD j z)).set j (q.getD i z)
theorem Qhl(q:List α)(i j:Nat): (swp z q i j).length=q.length:=by simp[swp]
theorem Jmp(q:List α)(i k:Nat)(x:α)(hi:i<q.length): (q.set i x).getD k z=if k=i then x else q.getD k z:=by grind
theorem Jgf(q:List α)(hi:i<q.length)(hj:j<q.length)(k:Nat): (swp z q i j).getD k z=if k=j then q.getD i z else if k=i then q.getD j z else q.getD k z:=by grind [swp,Jmp]
theorem Ql(q:List α)(h:i<q.length): q.getD i z=q[i]:=by grind
theorem Jst(q:List α)(hi:i<q.length)(hj:j<q.length): (swp z q i j).Perm q:=by grind [swp,Ql,List.set_set_perm]
theorem getD_mem'(q:List α)(h:i<q.length): q.getD i z∈q:=by grind
structure Seg(a b:Nat)(q q':List α): Prop where
 perm:q'.Perm q
 lo:∀ k,k<a->q'.getD k z=q.getD k z
 hi:∀ k,b<=k->q'.getD k z=q.getD k z
variable {z}
theorem Seg.len{q q':List α}(h:Seg z a b q q'): q'.length=q.length:=h.perm.length_eq
theorem Seg.refl(a b:Nat)(q:List α): Seg z a b q q:=⟨List.Perm.refl _,λ_ _=>rfl,λ_ _=>rfl⟩
theorem Seg.trans{a b:Nat}{q q' q'':List α}(h:Seg z a b q q')(k:Seg z a b q' q''): Seg z a b q q'' :=
 ⟨k.perm.trans h.perm,λi hi=>(k.lo i hi).trans (h.lo i hi),λi hi=>(k.hi i hi).trans (h.hi i hi)⟩
theorem Seg.mono{q q':List α}(h:Seg z a b q q')(h1:a'<=a)(h2:b<=b'): Seg z a' b' q q' :=
 ⟨h.perm,λi hi=>h.lo i om,λi hi=>h.hi i om⟩
theorem Seg.swp{q:List α}(h1:a<=i)(h2:i<b)(h3:a<=j)(h4:j<b)(hb:b<=q.length): Seg z a b q (swp z q i j) :=
 ⟨Jst z q om om,λk o=>by grind [Jgf],λk o=>by grind [Jgf]⟩
theorem Qkq{q q':List α}(hl:q'.length=q.length)(h:∀ k,k<q.length->q'.getD k z=q.getD k z): q'=q:=by grind [List.ext_getElem,Ql]
theorem getD_take(q:List α)(a k:Nat)(h:k<a): (q.take a).getD k z=q.getD k z:=by simp[List.getD,h]
theorem Qkr(q:List α)(a k:Nat): (q.drop a).getD k z=q.getD (a+k) z:=by grind
theorem Seg.all{q q':List α}(h:Seg z a b q q')(hab:a<=b)(hb:b<=q.length){Φ:α->Prop}(H:∀ k,a<=k->k<b->Φ (q.getD k z)): ∀ k,a<=k->k<b->Φ (q'.getD k z):=by
 intro k h1 Z;have u:=h.len;have J:q'.take a=q.take a:=Qkq (z:=z) (by simp[u]) (λi hi=>by
  have j:i<a:=by simp at hi;omega
  rw[getD_take _ _ _ j,getD_take _ _ _ j];exact h.lo i j)
 have G:q'.drop b=q.drop b:=Qkq (z:=z) (by simp[u]) (λi hi=>by
  rw[Qkr,Qkr];exact h.hi _ om)
 have s:∀ l:List α,l=l.take a++((l.take b).drop a++l.drop b):=λl=>by grind [List.append_assoc,List.take_append_drop]
 have p:=h.perm;rw[s q',s q,J,G]at p;have C:=(List.perm_append_right_iff _).1 ((List.perm_append_left_iff _).1 p);have D:q'.getD k z∈(q'.take b).drop a:=by
  have e:((q'.take b).drop a).getD (k-a) z=q'.getD k z:=by grind
  grind [getD_mem']
 have o:=C.mem_iff.1 D;obtain⟨i,hi,O⟩:=List.getElem_of_mem o;have:((q.take b).drop a).getD i z=q'.getD k z:=by grind
 grind
end
section
variable {α:Type} (z:α) (f:α->α->Int)
def SOn(q:List α)(a b:Nat): Prop:=∀ i j,a<=i->i<j->j<b->f (q.getD i z) (q.getD j z)<=0
variable {z f}
theorem SOn.mono{q:List α}(h:SOn z f q a b)(h1:a<=a')(h2:b'<=b): SOn z f q a' b':=λi j hi o u=>h i j om o om
theorem SOn.same{q q':List α}(h:SOn z f q a b)(he:∀ k,a<=k->k<b->q'.getD k z=q.getD k z): SOn z f q' a b:=λi j hi o u=>by
 rw[he i hi om,he j om u];exact h i j hi o u
theorem SOn.one(q:List α)(h:b<=a+1): SOn z f q a b:=λi j hi o u=>by omega
def InsI(z:α)(f:α->α->Int)(q:List α)(a i j:Nat): Prop:=a<=j/\j<=i/\(∀ k m,a<=k->k<m->m<=i->k≠j->m≠j->f (q.getD k z) (q.getD m z)<=0)/\(∀ m,j<m->m<=i->f (q.getD j z) (q.getD m z)<=0)
theorem InsI.start{q:List α}(h:SOn z f q a i)(hi:a<=i): InsI z f q a i i :=
 ⟨hi,Nat.le_refl _,λk m o j D C u=>h k m o j om,λm o j=>om⟩
theorem InsI.step{q:List α}(h:InsI z f q a i j)(hj:a<j)(hi:i<q.length)(hlt:f (q.getD j z) (q.getD (j-1) z)<0): InsI z f (swp z q j (j-1)) a i (j-1):=by
 obtain⟨h1,Z,O,J⟩:=h;have s:=λk=>Jgf z q (i:=j) (j:=j-1) om om k;refine⟨om,om,λk m u o G D C=>?_,λm u o=>?_⟩;repeat grind
theorem InsI.done0{q:List α}(h:InsI z f q a i a): SOn z f q a (i+1):=by
 obtain⟨J,G,D,C⟩:=h;intro k m u o j;grind
theorem InsI.done{q:List α}(hf:PreC f)(h:InsI z f q a i j)(hj:a<j)(hge:¬ f (q.getD j z) (q.getD (j-1) z)<0): SOn z f q a (i+1):=by
 obtain⟨Z,O,C,J⟩:=h;have o:f (q.getD (j-1) z) (q.getD j z)<=0:=by have:=hf.anti (q.getD j z) (q.getD (j-1) z);omega
 intro k m u G D;by_cases e:k=j
 .grind
 by_cases e2:m=j
 .subst e2;by_cases e3:k=m-1
  .rw[e3];exact o
  exact hf.trans _ _ _ (C k (m-1) u om om e om) o
 repeat grind
end
open Go.RowKit Pl Go.Wk
attribute [local irreducible] WC WL QX WD WDB WP
variable {ds:List Bool}{base c i j n:Nat}{A:Option Addr}{fv v:Value}{w w' w1:World}
abbrev Pr:= Value×List V
def z0: Pr:=(undef,[])
def Dat(w:World)(base:Nat)(v:Value)(ps:List Pr): Prop:=w.ownsRow base 54 1 v ps.length (ps.map (·.1))/\∀ p∈ps,p.1.oneCell'=true
theorem Dat.ext{ps:List Pr}(h:Dat w base v ps)(hx:Ext w w'): Dat w' base v ps:=⟨Jk h.1 hx,h.2⟩
theorem Dat.rd{ps:List Pr}(h:Dat w base (.slice A n c) ps)(hn:ps.length=n): Rd w 1 A n (ps.map (·.1)):=by
 have:=h.1;rw[hn]at this;exact Rd.own this
theorem Jhn{ps:List Pr}(h:i<ps.length): (ps.map (·.1))[i]?=some (ps.getD i z0).1:=by grind
theorem Dat.cell{w:World}{base:Nat}{A:Option Addr}{n c:Nat}{ps:List Pr}(h:Dat w base (.slice A n c) ps)(hn:ps.length=n){i:Nat}(hi:i<n): w.cell? (adr A i)=some (ps.getD i z0).1 :=
 (h.rd hn).cell (Jhn om)
theorem Dat.one{ps:List Pr}(h:Dat w base v ps)(hi:i<ps.length): (ps.getD i z0).1.oneCell'=true:=h.2 _ (getD_mem' z0 ps hi)
theorem Dat.store{ps:List Pr}(h:Dat w base (.slice A n c) ps)(hn:ps.length=n)(hi:i<n){p:Pr}(hp:p.1.oneCell'=true):
  w.frozen? (adr A i)=false/\Dat (w.setCell (adr A i) p.1) base (.slice A n c) (ps.set i p)/\w.grownBy (w.setCell (adr A i) p.1) (Value.slice A n c).ownBlock:=by
 have j:=h.1;rw[hn]at j;obtain⟨J,u,G,D,o⟩:=Vz j (q:=i) om p.1;refine⟨u,⟨?_,λq C=>?_⟩,o⟩
 .grind [List.length_set,List.map_set]
 rcases List.mem_or_eq_of_mem_set C with h'|h'
 .exact h.2 q h'
 rw[h'];exact hp
theorem Dat.swap{ps:List Pr}(h:Dat w base (.slice A n c) ps)(hn:ps.length=n)(hi:i<n)(hj:j<n):
  w.frozen? (adr A i)=false/\Rd (w.setCell (adr A i) (ps.getD j z0).1) 1 A n ((ps.set i (ps.getD j z0)).map (·.1))/\(w.setCell (adr A i) (ps.getD j z0).1).frozen? (adr A j)=false /\
  (∃ u,(w.setCell (adr A i) (ps.getD j z0).1).cell? (adr A j)=some u)/\Dat ((w.setCell (adr A i) (ps.getD j z0).1).setCell (adr A j) (ps.getD i z0).1) base (.slice A n c) (swp z0 ps i j) /\
  w.grownBy ((w.setCell (adr A i) (ps.getD j z0).1).setCell (adr A j) (ps.getD i z0).1) (Value.slice A n c).ownBlock:=by
 obtain⟨Z,C,O⟩:=h.store hn hi (p:=ps.getD j z0) (h.one om);have o:(ps.set i (ps.getD j z0)).length=n:=by simp[hn]
 obtain⟨J,G,D⟩:=C.store o hj (p:=ps.getD i z0) (h.one om);exact⟨Z,C.rd o,J,⟨_,C.cell o hj⟩,G,Zy O D⟩
def fP(ds:List Bool)(p q:Pr): Int:=Jc p.2 q.2 ds
theorem preP(ds:List Bool): PreC (fP ds):=(Iy ds).pre (β:=Pr) (λp=>p.2)
def CmpF(w:World)(row:Option Nat)(fv:Value)(M:List Pr)(ds:List Bool): Prop:=∃ fid first cap,fv=.func (.func fid) first cap /\
 ∀ w',w.grownBy w' row->∀ p q,p∈M->q∈M->Ret Tryz.prog fid (first.toList++[p.1,q.1]++cap.toList) w' λr w''=>r=.int .i64 (fP ds p q)/\Ext w' w''
theorem CmpF.step{row:Option Nat}{M M':List Pr}(h:CmpF w row fv M ds)(hg:w.grownBy w1 row)(hp:M'.Perm M): CmpF w1 row fv M' ds:=by
 obtain⟨u,first,C,G,D⟩:=h;exact⟨u,first,C,G,λw' o p q j i=>D w' (Zy hg o) p q (hp.mem_iff.1 j) (hp.mem_iff.1 i)⟩
theorem Qkf{a b:Nat}{ai bi:Int}{ps:List Pr}(hD:Dat w base (.slice A n c) ps)(hn:ps.length=n)(hai:ai=(a:Int))(hbi:bi=(b:Int))(hb:b<=n)(ha:a<=n)(hmx:n<=140737488355328)(hC:CmpF w (Value.slice A n c).ownBlock fv ps ds):
  Ret Tryz.prog 153 [.slice A n c,.int .i64 ai,.int .i64 bi,fv] w λv w'=>∃ ps',Dat w' base (.slice A n c) ps'/\Seg z0 a b ps ps'/\SOn z0 (fP ds) ps' a b/\w.grownBy w' (Value.slice A n c).ownBlock:=by
 subst hai;subst hbi;obtain⟨ab,first,ac,rfl,hC⟩:=hC;refine enE Tryz.func153 Tryz.ntmps153 ?_;refine ρ ?_;refine Qh (fun (i:Nat) (q:List Pr)=>[(0,.slice A n c),(1,.int .i64 (a:Int)),(2,.int .i64 (b:Int)),(3,.func (.func ab) first ac),(8,.int .i64 ((i:Nat):Int))])
  (λi q w'=>a+1<=i/\(i<=b∨i=a+1)/\Seg z0 a b ps q/\SOn z0 (fP ds) q a i/\Dat w' base (.slice A n c) q/\w.grownBy w' (Value.slice A n c).ownBlock) (λi _=>b+1-i) (a+1) ps sO
  ⟨nR _,.inr rfl,Seg.refl _ _ _,SOn.one _ om,hD,Zp (Ext.refl w) _⟩ ?_
 rintro i q w1 ⟨hai,ag,a7,a8,aa,a6⟩;refine ciR (λh=>?_) (λh=>?_)
 .have af:i<b:=by have:=oT h;omega
  refine ρ ?_;refine Qh (fun (j:Nat) (q:List Pr)=>[(0,.slice A n c),(1,.int .i64 (a:Int)),(2,.int .i64 (b:Int)),(3,.func (.func ab) first ac),(8,.int .i64 ((i:Nat):Int)),(9,.int .i64 ((j:Nat):Int))])
   (λj q w'=>InsI z0 (fP ds) q a i j/\Seg z0 a b ps q/\Dat w' base (.slice A n c) q/\w.grownBy w' (Value.slice A n c).ownBlock) (λj _=>j) i q sB ⟨InsI.start a8 om,a7,aa,a6⟩ ?_
  rintro j q w2 ⟨hI,G,ae,ad⟩;have o:q.length=n:=by rw[G.len,hn]
  obtain⟨h1,h2,_,_⟩:=id hI;refine drR (scq 17 [14]) ?_;have a4:Ext w2 w2.drew:=(Ext.refl w2).drew;have J:=ae.ext a4;have a2:=Zy ad (Zp a4 _);refine ρd ?_;refine dki 21 (λh=>?_) (λh=>?_)
  .have hj:a<j:=by have:=oT h;omega
   have Z:j<n:=om
   have D:j-1<n:=om
   refine Jg j (J.rd o) Z ?_;refine Jz (J.cell o Z) ?_;refine Jg (j-1) (J.rd o) D ?_;refine Jz (J.cell o D) ?_;refine ρd ?_;refine Yy (hC _ a2 (q.getD j z0) (q.getD (j-1) z0) (G.perm.mem_iff.1 (getD_mem' z0 q om)) (G.perm.mem_iff.1 (getD_mem' z0 q om))) ?_;rintro r w4 ⟨rfl,a1⟩;refine⟨a1,?_⟩;have a9:=J.ext a1;have a5:=Zy a2 (Zp a1 _);refine ρd ?_;refine ciR (λh=>?_) (λh=>?_)
   .have O:=oT h;refine ρ ?_;refine drC 4 [0,1,2,3,4,5,6,7,10,11] [(0,8),(0,9),(0,12),(0,13),(0,14),(2,15),(2,16),(2,17)] kr ?_;have a3:Ext w4 w4.drew:=(Ext.refl w4).drew;have C:=a9.ext a3;obtain⟨s1,s2,s3,⟨u,s4⟩,s5,s6⟩:=C.swap o Z D;refine ρp ?_;refine dix (j-1) (C.rd o) D ?_;refine Jz (C.cell o D) ?_;refine Jg j (C.rd o) Z ?_;refine Jz (C.cell o Z) ?_;refine Jg j (C.rd o) Z ?_;refine ρd ?_;refine Qw ?_;refine sto (C.cell o Z) s1 ?_ (hv:=C.one (o.symm ▸ D));refine ρ ?_;refine Qe ?_;refine Qw ?_;refine ix (j-1) s2 D ?_;refine ρ ?_;refine Qe ?_;refine Qw ?_;refine sto s4 s3 ?_ (hv:=C.one (o.symm ▸ Z));refine ρ ?_;exact Qk (j-1) (swp z0 q j (j-1)) sO ⟨hI.step hj om O,G.trans (Seg.swp om om om om om),s5,Zy a5 (Zy (Zp a3 _) s6)⟩ om
   have O:=oF h;refine ρ ?_;exact Qk (i+1) q sB ⟨om,om,G,hI.done (preP ds) hj O,a9,a5⟩ om
  have hj:j=a:=by have:=oF h;omega
  subst hj;refine ρd ?_;refine ρ ?_;exact Qk (i+1) q sB ⟨om,om,G,hI.done0,J,a2⟩ om
 refine ρ ?_;have hbi:b<=i:=by grind
 exact Un ⟨q,aa,a7,a8.mono (nR _) hbi,a6⟩
end Go.Proofs.YtcdccafgdnblaaaGreatDoor
namespace Go.Wk
variable {a b:Int}{k1 k2:IntKind}{x y:Operand}{t yt:TypeId}
section
variable {P:Program} {n:Nat} {al:AL} {w:World} {Q:Exit->Act->World->Prop} {ops:Array Oper} {rest:List Oper} {d ty:Nat} {pos:String} {aft:Array Edge}
theorem qn(m q:Nat)(k:WL P n ops Q rest ((d,.int .i64 ((m / q:Nat):Int))::al) w)(hx:ev al x=some (.int .i64 a):=by rfl)(hy:ev al y=some (.int .i64 b):=by rfl)(ha:a=(m:Int):=by first|rfl|omega)(hb:b=(q:Int):=by first|rfl|omega)(h0:0<q:=by omega)(hm:m<=9223372036854775807:=by omega)(hd:Nat.blt d n=true:=by rfl): WL P n ops Q (⟨some d,.binOp .quo t x y yt,ty,pos,aft,none⟩::rest) al w:=by
 subst ha;subst hb;refine wquo hx hy om hd ?_;have e:IntKind.i64.wrap ((m:Int).tdiv (q:Int))=((m / q:Nat):Int):=by
  rw[Int.tdiv_eq_ediv_of_nonneg om,<-Int.natCast_ediv];have:=Nat.div_le_self m q;generalize m / q=r at *
  exact Jqv om
 rw[e];exact k
variable {drest:List (Nat×Oper)}
theorem dshl(k:WD P n ops Q drest ((d,.int k1 (k1.wrap (a*2^(min b.toNat k1.bits))))::al) w)(hx:ev al x=some (.int k1 a):=by rfl)(hy:ev al y=some (.int k2 b):=by rfl)(h0:0<=b:=by decide)(hd:Nat.blt d n=true:=by rfl):
  WD P n ops Q ((0,⟨some d,.binOp .shl t x y yt,ty,pos,aft,none⟩)::drest) al w :=
 dy (λw' _ e i=>by
  have j:¬ b<0:=om
  simp[execOp,i.ev hx,i.ev hy,eqGuard,binOp,Op.shift,j]) hd k
theorem dshr(k:WD P n ops Q drest ((d,.int k1 (a.fdiv (2^(min b.toNat k1.bits))))::al) w)(hx:ev al x=some (.int k1 a):=by rfl)(hy:ev al y=some (.int k2 b):=by rfl)(h0:0<=b:=by decide)(hd:Nat.blt d n=true:=by rfl):
  WD P n ops Q ((0,⟨some d,.binOp .shr t x y yt,ty,pos,aft,none⟩)::drest) al w :=
 dy (λw' _ e i=>by
  have j:¬ b<0:=om
  simp[execOp,i.ev hx,i.ev hy,eqGuard,binOp,Op.shift,j]) hd k
end
end Go.Wk
namespace Go.Proofs.YtcdccafgdnblaaaGreatDoor
open Go.RowKit Pl Go.Wk
attribute [local irreducible] WC WL QX WD WDB WP
variable {cap first:Array Value}{fid:FuncId}{ai bi fsti hii loi:Int}{ds:List Bool}{M ps q q':List Pr}{a b base c fst g hi i j lo n t:Nat}{A:Option Addr}{w w' w0 w1:World}
structure DP(w0 w:World)(base:Nat)(A:Option Addr)(n c:Nat)(ps q:List Pr): Prop where
 d:Dat w base (.slice A n c) q
 p:q.Perm ps
 g:w0.grownBy w (Value.slice A n c).ownBlock
 l:q.length=n
section
variable {w0 w w':World} {base:Nat} {A:Option Addr} {n c:Nat} {ps q:List Pr}
theorem DP.start(hD:Dat w base (.slice A n c) ps)(hn:ps.length=n): DP w w base A n c ps ps:=⟨hD,List.Perm.refl _,Zp (Ext.refl w) _,hn⟩
theorem DP.ext(h:DP w0 w base A n c ps q)(hx:Ext w w'): DP w0 w' base A n c ps q:=⟨h.d.ext hx,h.p,Zy h.g (Zp hx _),h.l⟩
theorem DP.drew(h:DP w0 w base A n c ps q): DP w0 w.drew base A n c ps q:=h.ext (Ext.refl w).drew
theorem DP.rd(h:DP w0 w base A n c ps q): Rd w 1 A n (q.map (·.1)):=h.d.rd h.l
theorem DP.cell(h:DP w0 w base A n c ps q){i:Nat}(hi:i<n): w.cell? (adr A i)=some (q.getD i z0).1:=h.d.cell h.l hi
theorem DP.one(h:DP w0 w base A n c ps q){i:Nat}(hi:i<n): (q.getD i z0).1.oneCell'=true:=h.d.one (h.l.symm ▸ hi)
theorem DP.swap(h:DP w0 w base A n c ps q){i j:Nat}(hi:i<n)(hj:j<n):
  w.frozen? (adr A i)=false/\Rd (w.setCell (adr A i) (q.getD j z0).1) 1 A n ((q.set i (q.getD j z0)).map (·.1))/\(w.setCell (adr A i) (q.getD j z0).1).frozen? (adr A j)=false /\
  (∃ u,(w.setCell (adr A i) (q.getD j z0).1).cell? (adr A j)=some u)/\DP w0 ((w.setCell (adr A i) (q.getD j z0).1).setCell (adr A j) (q.getD i z0).1) base A n c ps (swp z0 q i j)/\w.grownBy ((w.setCell (adr A i) (q.getD j z0).1).setCell (adr A j) (q.getD i z0).1) (Value.slice A n c).ownBlock:=by
 obtain⟨O,J,G,D,C,o⟩:=h.d.swap h.l hi hj;exact⟨O,J,G,D,⟨C,(Jst z0 q (h.l.symm ▸ hi) (h.l.symm ▸ hj)).trans h.p,Zy h.g o,by rw[Qhl];exact h.l⟩,o⟩
theorem DP.box(h:DP w0 w base A n c ps q){cs:List Value}(hB:Blk w g t cs)(hne:Nat.beq 54 t=false)(hg:w0.heap.size<=g)(u:Value): DP w0 (w.setCell ⟨g,0,none⟩ u) base A n c ps q:=by
 have j:w.grownBy (w.setCell ⟨g,0,none⟩ u) (some g):=⟨rfl,rfl,rfl,by simp[World.setCell],λk i hn=>Below.heap_setCell w ⟨g,0,none⟩ u k (λe=>hn (by rw[e]))⟩;refine⟨⟨h.d.1.kept j (Or.inr ?_),h.d.2⟩,h.p,?_,h.l⟩
 .exactλe=>hB.ne_own h.d.1 hne e.symm
 refine⟨h.g.os,h.g.tape,h.g.output,?_,λk i hn=>?_⟩
 .simp[World.setCell];exact h.g.size
 exact(Below.heap_setCell w ⟨g,0,none⟩ u k (by simp;omega)).trans (h.g.block k i hn)
end
def CF(w:World)(row:Option Nat)(fid:FuncId)(first cap:Array Value)(M:List Pr)(ds:List Bool): Prop :=
 ∀ w',w.grownBy w' row->∀ p q,p∈M->q∈M->Ret Tryz.prog fid (first.toList++[p.1,q.1]++cap.toList) w' λr w''=>r=.int .i64 (fP ds p q)/\Ext w' w''
theorem CF.call(hC:CF w0 (Value.slice A n c).ownBlock fid first cap ps ds)(h:DP w0 w base A n c ps q)(hi:i<n)(hj:j<n):
  Ret Tryz.prog fid (first.toList++[(q.getD i z0).1,(q.getD j z0).1]++cap.toList) w λr w''=>∃ b:Int,r=.int .i64 b/\Ext w w'' :=
 (hC w h.g _ _ (h.p.mem_iff.1 (getD_mem' z0 q (h.l.symm ▸ hi))) (h.p.mem_iff.1 (getD_mem' z0 q (h.l.symm ▸ hj)))).mono λr w'' ⟨u,o⟩=>⟨_,u,o⟩
theorem CF.pack{row:Option Nat}(h:CF w row fid first cap M ds): CmpF w row (.func (.func fid) first cap) M ds:=⟨fid,first,cap,rfl,h⟩
theorem CF.step(hC:CF w (Value.slice A n c).ownBlock fid first cap ps ds)(h:DP w w1 base A n c ps q): CF w1 (Value.slice A n c).ownBlock fid first cap q ds :=
 λw' i a b o j=>hC w' (Zy h.g i) a b (h.p.mem_iff.1 o) (h.p.mem_iff.1 j)
theorem DP.after(h:DP w0 w base A n c ps q)(k:DP w w' base A n c q q'): DP w0 w' base A n c ps q':=⟨k.d,k.p.trans h.p,Zy h.g k.g,k.l⟩
theorem Qmp(hD:Dat w base (.slice A n c) ps)(hn:ps.length=n)(hmx:n<=140737488355328)(hC:CF w (Value.slice A n c).ownBlock fid first cap ps ds)(hai:ai=(a:Int))(hbi:bi=(b:Int))(hab:a<b)(hb:b<=n):
  Ret Tryz.prog 157 [.slice A n c,.int .i64 ai,.int .i64 bi,.func (.func fid) first cap] w λv w'=>∃ ps',DP w w' base A n c ps ps':=by
 subst hai;subst hbi;refine enE Tryz.func157 Tryz.ntmps157 ?_;refine ρ ?_;refine Xe (fun (i j:Nat) (q:List Pr)=>[(0,.slice A n c),(8,.int .i64 (i:Int)),(9,.int .i64 ((j:Int)-1))])
  (λi j q w'=>DP w w' base A n c ps q/\j<=n/\i<=n) (λi j _=>n+j-i) a b ps sO ⟨DP.start hD hn,hb,om⟩ ?_
 rintro i j q w1 ⟨H,hj,hi⟩;refine ciR (λh=>?_) (λh=>?_)
 .have a1:i+1<j:=by have:=oT h;omega
  have C:i<n:=om
  have D:j-1<n:=om
  refine ρ ?_;refine drC 4 [0,1,2,3,4,5,8,9] [(0,6),(0,7),(0,10),(0,11),(0,12),(2,13),(2,14),(2,15)] kr ?_;have o:=H.drew;obtain⟨s1,Z,O,⟨u,J⟩,G,s6⟩:=o.swap C D;refine ρp ?_;refine dix (j-1) o.rd D ?_;refine Jz (o.cell D) ?_;refine Jg (i) o.rd C ?_;refine Jz (o.cell C) ?_;refine Jg (i) o.rd C ?_;refine ρd ?_;refine Qw ?_;refine sto (o.cell C) s1 ?_ (hv:=o.one D);refine ρ ?_;refine Qe ?_;refine Qw ?_;refine ix (j-1) Z D ?_;refine ρ ?_;refine Qe ?_;refine Qw ?_;refine sto J O ?_ (hv:=o.one C);refine ρ ?_;exact Xj (i+1) (j-1) (swp z0 q i (j-1)) sO ⟨G,om,om⟩ om
 refine ρ ?_;exact Un ⟨q,H⟩
theorem Jtl(hD:Dat w base (.slice A n c) ps)(hn:ps.length=n)(hmx:n<=140737488355328)(hC:CF w (Value.slice A n c).ownBlock fid first cap ps ds)(hlo:loi=(lo:Int))(hhi:hii=(hi:Int))(hfst:fsti=(fst:Int))(hb:fst+hi<=n)(hl:lo<=n):
  Ret Tryz.prog 172 [.slice A n c,.int .i64 loi,.int .i64 hii,.int .i64 fsti,.func (.func fid) first cap] w λv w'=>∃ ps',DP w w' base A n c ps ps':=by
 subst hlo;subst hhi;subst hfst;refine enE Tryz.func172 Tryz.ntmps172 ?_;refine ρ ?_;refine Qh (fun (i:Nat) (q:List Pr)=>[(0,.slice A n c),(2,.int .i64 (hi:Int)),(3,.int .i64 (fst:Int)),(4,.func (.func fid) first cap),(10,.int .i64 (i:Int))])
  (λi q w'=>DP w w' base A n c ps q/\i<=n) (λi _=>n-i) lo ps sB ⟨DP.start hD hn,hl⟩ ?_
 rintro i q w1 ⟨H,hr⟩;refine ciR (λh=>?_) (λh=>?_)
 .refine ρ ?_;exact Un ⟨q,H⟩
 have a6:2*i+1<hi:=by have:=oF h;omega
 refine ρ ?_;refine Zn (fun (b:Bool)=>[(0,.slice A n c),(2,.int .i64 (hi:Int)),(3,.int .i64 (fst:Int)),(4,.func (.func fid) first cap),(10,.int .i64 (i:Int)),(11,.int .i64 (2*(i:Int)+1)),(40,.bool b)]) (λb w'=>DP w w' base A n c ps q/\(b=true->2*i+2<hi)) ?_ ?_
 .skip
  refine dr (scq 22 [19]) kr ?_;have Z:=H.drew;refine ρd ?_;refine dki 23 (λh=>?_) (λh=>?_)
  .have a1:2*i+2<hi:=by have:=oT h;omega
   have li:fst+(2*i+1)<n:=om
   have lj:fst+(2*i+1)+1<n:=om
   refine Jg (fst+(2*i+1)) Z.rd li ?_;refine Jz (Z.cell li) ?_;refine Jg (fst+(2*i+1)+1) Z.rd lj ?_;refine Jz (Z.cell lj) ?_;refine ρd ?_;refine Yy (hC.call Z li lj) ?_;rintro r a4 ⟨a8,rfl,O⟩;refine⟨O,?_⟩;have H2:=Z.ext O;refine ρd ?_;refine ρ ?_;exact Jp _ sB ⟨H2,λ_=>a1⟩
  refine ρd ?_;refine ρ ?_;exact Jp false sB ⟨Z,λe=>by cases e⟩
 rintro b w2 ⟨H2,a2⟩;refine Zn (fun (j:Nat)=>[(0,.slice A n c),(2,.int .i64 (hi:Int)),(3,.int .i64 (fst:Int)),(4,.func (.func fid) first cap),(10,.int .i64 (i:Int)),(11,.int .i64 (j:Int))]) (λj w'=>DP w w' base A n c ps q/\i<j/\j<hi) ?_ ?_
 .refine ci (λh=>?_) (λh=>?_)
  .have:=a2 h;refine ρ ?_;exact Jp (2*i+2) sO ⟨H2,om,om⟩
  refine ρ ?_;exact Jp (2*i+1) sO ⟨H2,om,om⟩
 rintro j w3 ⟨H3,a1,a5⟩;have D:fst+i<n:=om
 have G:fst+j<n:=om
 refine drR (scq 16 [13]) ?_;have C:=H3.drew;refine ρd ?_;refine Jg (fst+i) C.rd D ?_;refine Jz (C.cell D) ?_;refine Jg (fst+j) C.rd G ?_;refine Jz (C.cell G) ?_;refine ρd ?_;refine Yy (hC.call C D G) ?_;rintro r a3 ⟨a7,rfl,J⟩;refine⟨J,?_⟩;have H4:=C.ext J;refine ρd ?_;refine ciR (λh=>?_) (λh=>?_)
 .refine ρ ?_;exact Jkf ⟨q,H4⟩
 refine ρ ?_;refine drC 4 [0,1,2,3,4,5,6,7,8,9,10,11,14,15,16,17] [(0,12),(0,13),(0,18),(0,19),(0,20),(2,21),(2,22),(2,23)] kr ?_;have o:=H4.drew;obtain⟨s1,s2,s3,⟨u,s4⟩,s5,s6⟩:=o.swap D G;refine ρp ?_;refine dix (fst+j) o.rd G ?_;refine Jz (o.cell G) ?_;refine Jg (fst+i) o.rd D ?_;refine Jz (o.cell D) ?_;refine Jg (fst+i) o.rd D ?_;refine ρd ?_;refine Qw ?_;refine sto (o.cell D) s1 ?_ (hv:=o.one G);refine ρ ?_;refine Qe ?_;refine Qw ?_;refine ix (fst+j) s2 G ?_;refine ρ ?_;refine Qe ?_;refine Qw ?_;refine sto s4 s3 ?_ (hv:=o.one D);refine ρ ?_;exact Qk j (swp z0 q (fst+i) (fst+j)) sB ⟨s5,om⟩ om
theorem Xqg(hD:Dat w base (.slice A n c) ps)(hn:ps.length=n)(hmx:n<=140737488355328)(hC:CF w (Value.slice A n c).ownBlock fid first cap ps ds)(hai:ai=(a:Int))(hbi:bi=(b:Int))(hab:a<b)(hb:b<=n):
  Ret Tryz.prog 154 [.slice A n c,.int .i64 ai,.int .i64 bi,.func (.func fid) first cap] w λv w'=>∃ ps',DP w w' base A n c ps ps':=by
 subst hai;subst hbi;refine enE Tryz.func154 Tryz.ntmps154 ?_;refine ρ ?_;refine qn (b-a-1) 2 ?_;refine ρ ?_;refine Qh (fun (i:Nat) (q:List Pr)=>[(0,.slice A n c),(3,.func (.func fid) first cap),(8,.int .i64 (a:Int)),(9,.int .i64 0),(10,.int .i64 ((b:Int)-(a:Int))),(11,.int .i64 ((i:Int)-1))])
  (λi q w'=>DP w w' base A n c ps q/\i<=n) (λi _=>i) ((b-a-1) / 2+1) ps sO ⟨DP.start hD hn,om⟩ ?_
 rintro i q w1 ⟨H,hi⟩;refine ciR (λh=>?_) (λh=>?_)
 .have J:0<i:=by have:=oT h;omega
  refine clR (Jtl (lo:=i-1) (hi:=b-a) (fst:=a) (loi:=(i:Int)-1) (hii:=(b:Int)-(a:Int)) H.d H.l hmx (hC.step H) om om rfl om om) ?_;rintro v Z ⟨G,O⟩;refine ρ ?_;exact Qk (i-1) G sO ⟨H.after O,om⟩ om
 refine ρ ?_;refine Qh (fun (i:Nat) (q:List Pr)=>[(0,.slice A n c),(3,.func (.func fid) first cap),(8,.int .i64 (a:Int)),(9,.int .i64 0),(12,.int .i64 ((i:Int)-1))])
  (λi q w'=>DP w w' base A n c ps q/\i<=b-a) (λi _=>i) (b-a) q sO ⟨H,om⟩ ?_
 rintro i q w1 ⟨H,hi⟩;refine ciR (λh=>?_) (λh=>?_)
 .have J:0<i:=by have:=oT h;omega
  have o:a<n:=om
  have C:a+(i-1)<n:=om
  refine ρ ?_;refine drC 4 [0,1,2,3,4,5,6,7,8,9,12,13] [(0,10),(0,11),(0,14),(0,15),(0,16),(2,17),(2,18),(2,19)] kr ?_;have j:=H.drew;obtain⟨s1,s2,s3,⟨u,s4⟩,D,s6⟩:=j.swap o C;refine ρp ?_;refine dix (a+(i-1)) j.rd C ?_;refine Jz (j.cell C) ?_;refine Jg (a) j.rd o ?_;refine Jz (j.cell o) ?_;refine Jg (a) j.rd o ?_;refine ρd ?_;refine Qw ?_;refine sto (j.cell o) s1 ?_ (hv:=j.one C);refine ρ ?_;refine Qe ?_;refine Qw ?_;refine ix (a+(i-1)) s2 C ?_;refine ρ ?_;refine Qe ?_;refine Qw ?_;refine sto s4 s3 ?_ (hv:=j.one o);refine clR (Jtl (lo:=0) (hi:=i-1) (fst:=a) (loi:=0) (hii:=(i:Int)-1) D.d D.l hmx (hC.step D) rfl om rfl om om) ?_;rintro v Z ⟨G,O⟩;refine ρ ?_;exact Qk (i-1) G sO ⟨D.after O,om⟩ om
 refine ρ ?_;exact Un ⟨q,H⟩
open Go.RowKit Pl Go.Wk _root_.Go.Proofs.Tryz
variable {cap first:Array Value}{fid:FuncId}{ai bi s:Int}{ds:List Bool}{ps q:List Pr}{a b base c e g n:Nat}{A:Option Addr}{w w0:World}
theorem zInt: Qa prog 3=some (.int .i64 0):=kr
theorem zXor: Qa prog 265=some (.int .u64 0):=kr
theorem Jhz(H:DP w0 w base A n c ps q)(hmx:n<=140737488355328)(hC:CF w0 (Value.slice A n c).ownBlock fid first cap ps ds)(hB:Blk w g 3 [.int .i64 s])(hg:w0.heap.size<=g)(ha:a<n)(hb:b<n):
  Ret prog 191 [.slice A n c,.int .i64 (a:Int),.int .i64 (b:Int),.pointer (some ⟨g,0,none⟩),.func (.func fid) first cap] w λr w'=>∃ x y:Nat,∃ s':Int,r=.tuple #[.int .i64 (x:Int),.int .i64 (y:Int)]/\((x=a/\y=b)∨(x=b/\y=a))/\DP w0 w' base A n c ps q/\Blk w' g 3 [.int .i64 s']:=by
 refine enE func191 ntmps191 ?_;refine drR (scq 11 [9]) ?_;have o:=H.drew;refine ρd ?_;refine Jg (b) o.rd hb ?_;refine Jz (o.cell hb) ?_;refine Jg (a) o.rd ha ?_;refine Jz (o.cell ha) ?_;refine ρd ?_;refine Yy (hC.call o hb ha) ?_;rintro r C ⟨D,rfl,j⟩;refine⟨j,?_⟩;have u:=o.ext j;refine ρd ?_;refine ρ ?_;have i:=(hB.ext (Ext.refl w).drew).ext j;refine ci (λh=>?_) (λh=>?_)
 .refine ldR (i.cell 0) ?_;refine Xt (i.cell 0) (i.frozen 0) ?_;refine ρ ?_;exact Yn ⟨b,a,_,rfl,.inr ⟨rfl,rfl⟩,u.box i rfl hg _,i.set 0 _⟩
 refine ρ ?_;exact Yn ⟨a,b,_,rfl,.inl ⟨rfl,rfl⟩,u,i⟩
theorem Qxl(H:DP w0 w base A n c ps q)(hmx:n<=140737488355328)(hC:CF w0 (Value.slice A n c).ownBlock fid first cap ps ds)(hB:Blk w g 3 [.int .i64 s])(hg:w0.heap.size<=g)(ha:a<n)(hb:b<n)(he:e<n):
  Ret prog 176 [.slice A n c,.int .i64 (a:Int),.int .i64 (b:Int),.int .i64 (e:Int),.pointer (some ⟨g,0,none⟩),.func (.func fid) first cap] w λr w'=>∃ m:Nat,∃ s':Int,r=.int .i64 (m:Int)/\(m=a∨m=b∨m=e)/\DP w0 w' base A n c ps q/\Blk w' g 3 [.int .i64 s']:=by
 refine enE func176 ntmps176 ?_;refine clR (Jhz H hmx hC hB hg ha hb) ?_;rintro r w1 ⟨G,D,s1,rfl,e1,Z,o⟩;refine clR (Jhz (a:=D) (b:=e) Z hmx hC o hg om he) ?_;rintro r w2 ⟨C,e2,s2,rfl,e3,O,j⟩;refine clR (Jhz (a:=G) (b:=C) O hmx hC j hg om om) ?_;rintro r w3 ⟨a3,u,s3,rfl,e4,J,i⟩;refine ρ ?_;exact Jq ⟨u,_,rfl,om,J,i⟩
theorem Jlk(H:DP w0 w base A n c ps q)(hmx:n<=140737488355328)(hC:CF w0 (Value.slice A n c).ownBlock fid first cap ps ds)(hB:Blk w g 3 [.int .i64 s])(hg:w0.heap.size<=g)(hai:ai=(a:Int))(ha:0<a)(hb:a+1<n):
  Ret prog 175 [.slice A n c,.int .i64 ai,.pointer (some ⟨g,0,none⟩),.func (.func fid) first cap] w λr w'=>∃ m:Nat,∃ s':Int,r=.int .i64 (m:Int)/\(m=a∨m+1=a∨m=a+1)/\DP w0 w' base A n c ps q/\Blk w' g 3 [.int .i64 s']:=by
 subst hai;refine enE func175 ntmps175 ?_;refine ρ ?_;have o:a-1<n:=om
 have j:((a:Int)-1)=((a-1:Nat):Int):=om
 have u:((a:Int)+1)=((a+1:Nat):Int):=om
 rw[j,u];refine cl (Qxl H hmx hC hB hg o (by omega:a<n) hb) ?_;rintro r D ⟨m,G,rfl,j,C,i⟩;refine ρ ?_;exact Jq ⟨m,_,rfl,om,C,i⟩
theorem Xkt(hD:Dat w base (.slice A n c) ps)(hn:ps.length=n)(hmx:n<=140737488355328)(hC:CF w (Value.slice A n c).ownBlock fid first cap ps ds)(hai:ai=(a:Int))(hbi:bi=(b:Int))(hab:a+12<b)(hb:b<=n):
  Ret prog 156 [.slice A n c,.int .i64 ai,.int .i64 bi,.func (.func fid) first cap] w λr w'=>∃ m:Nat,∃ z:Int,r=.tuple #[.int .i64 (m:Int),.int .i64 z]/\a<=m/\m<b/\DP w w' base A n c ps ps:=by
 subst hai;subst hbi;refine enE func156 ntmps156 ?_;refine Jv zInt ?_;intro w1 g u o hB;have H1:=(DP.start hD hn).ext u;refine ρ ?_;refine qn (b-a) 4 ?_;refine ρ ?_;refine qn (b-a) 4 ?_;refine ρ ?_;refine qn (b-a) 4 ?_;refine ctR ?_ ?_
 .exact decide_eq_true om
 have hq:(b-a) / 4<=(b-a)/\3<=(b-a) / 4/\4*((b-a) / 4)<=b-a:=om
 generalize (b-a) / 4=l4 at hq ⊢
 refine ρ ?_;refine Jrp (fun (i j k:Nat)=>[(0,.slice A n c),(3,.func (.func fid) first cap),(11,.pointer (some ⟨g,0,none⟩)),(12,.int .i64 (i:Int)),(13,.int .i64 (j:Int)),(14,.int .i64 (k:Int))])
  (λi j k w'=>DP w w' base A n c ps ps/\(∃ s:Int,Blk w' g 3 [.int .i64 s])/\a<=i/\i<b/\a<=j/\j<b/\a<=k/\k<b) ?_ ?_
 .refine ci (λh=>?_) (λh=>?_)
  .have a1:=oT h;refine clR (Jlk (a:=a+l4) (ai:=(a:Int)+(l4:Int)*1) H1 hmx hC hB o om om om) ?_;rintro r w2 ⟨i,s2,rfl,e2,H2,O⟩;refine clR (Jlk (a:=a+l4*2) (ai:=(a:Int)+(l4:Int)*2) H2 hmx hC O o om om om) ?_;rintro r w3 ⟨j,s3,rfl,e3,H3,J⟩;refine clR (Jlk (a:=a+l4*3) (ai:=(a:Int)+(l4:Int)*3) H3 hmx hC J o om om om) ?_;rintro r w4 ⟨k,s4,rfl,e4,H4,G⟩;refine ρ ?_;exact Jbx i j k sB ⟨H4,⟨_,G⟩,om,om,om,om,om,om⟩
  refine ρ ?_;exact Jbx (a+l4) (a+l4*2) (a+l4*3) sO ⟨H1,⟨_,hB⟩,om,om,om,om,om,om⟩
 rintro i j k w5 ⟨H5,⟨s5,D⟩,h1,h2,h3,h4,h5,h6⟩;refine clR (Qxl H5 hmx hC D o (by omega:i<n) (by omega:j<n) (by omega:k<n)) ?_;rintro r w6 ⟨m,s6,rfl,e6,Z,C⟩;refine ldR (C.cell 0) ?_;refine ciR (λh=>?_) (λh=>?_)
 .refine ρ ?_;exact Yn ⟨m,_,rfl,om,om,Z⟩
 refine ciR (λh=>?_) (λh=>?_)
 .refine ρ ?_;exact Yn ⟨m,_,rfl,om,om,Z⟩
 refine ρ ?_;exact Yn ⟨m,_,rfl,om,om,Z⟩
open Go.RowKit Pl Go.Wk _root_.Go.Proofs.Tryz
variable {ai bi mi r:Int}{ps q:List Pr}{a b base c g m n:Nat}{A:Option Addr}{w w0:World}
theorem Qyx(op:BinOp)(x y:Int): 0<=bits op .u64 x y/\bits op .u64 x y<=18446744073709551615:=by
 unfold bits;rw[IntKind.wrap_u64];omega
theorem Qdg(H:DP w0 w base A n c ps q)(hB:Blk w g 265 [.int .u64 r])(hg:w0.heap.size<=g):
  Ret prog 174 [.pointer (some ⟨g,0,none⟩)] w λv w'=>∃ r',v=.int .u64 r'/\0<=r'/\r'<=18446744073709551615/\DP w0 w' base A n c ps q/\Blk w' g 265 [.int .u64 r']:=by
 refine enE func174 ntmps174 ?_;refine drR (scq 10 [109]) ?_;have b0:=hB.ext (Ext.refl _).drew;have h0:=H.drew;refine Jz (b0.cell 0) ?_;refine Jz (b0.cell 0) ?_;refine ρd ?_;refine dshl ?_;refine ρd ?_;obtain⟨D,Z⟩:∃ z,z=bits .xor .u64 r (IntKind.u64.wrap (r*2^min (13:Int).toNat IntKind.u64.bits)):=⟨_,rfl⟩;refine dkv 10 (u:=.int .u64 D) (congrArg (Value.int .u64) Z.symm) ?_;refine Qw ?_;refine sto (b0.cell 0) (b0.frozen 0) ?_;refine ρ ?_;have H1:=h0.box b0 rfl hg (.int .u64 D);have a2:=b0.set 0 (.int .u64 D);refine dr (scq 10 [109]) kr ?_;have o:=a2.ext (Ext.refl _).drew;have h1:=H1.drew;refine Jz (o.cell 0) ?_;refine Jz (o.cell 0) ?_;refine ρd ?_;refine dshr ?_;refine ρd ?_;obtain⟨C,O⟩:∃ z,z=bits .xor .u64 D (D.fdiv (2^min (7:Int).toNat IntKind.u64.bits)):=⟨_,rfl⟩;refine dkv 19 (u:=.int .u64 C) (congrArg (Value.int .u64) O.symm) ?_;refine Qw ?_;refine sto (o.cell 0) (o.frozen 0) ?_
 refine ρ ?_;have H2:=h1.box o rfl hg (.int .u64 C);have a1:=o.set 0 (.int .u64 C);refine dr (scq 10 [109]) kr ?_;have j:=a1.ext (Ext.refl _).drew;have h2:=H2.drew;refine Jz (j.cell 0) ?_;refine Jz (j.cell 0) ?_;refine ρd ?_;refine dshl ?_;refine ρd ?_;obtain⟨J,i⟩:∃ z,z=bits .xor .u64 C (IntKind.u64.wrap (C*2^min (17:Int).toNat IntKind.u64.bits)):=⟨_,rfl⟩;refine dkv 28 (u:=.int .u64 J) (congrArg (Value.int .u64) i.symm) ?_;refine Qw ?_;refine sto (j.cell 0) (j.frozen 0) ?_;refine ρ ?_;have H3:=h2.box j rfl hg (.int .u64 J);have G:=j.set 0 (.int .u64 J);refine ld (G.cell 0) ?_;refine ρ ?_;exact Jq ⟨J,rfl,by rw[i];exact(Qyx _ _ _).1,by rw[i];exact(Qyx _ _ _).2,H3,G⟩
theorem Qrs(hmi:mi=(m:Int))(h0:0<m)(hm:m<=140737488355328)(w:World): Ret prog 173 [.int .i64 mi] w λv w'=>∃ p:Nat,v=.int .u64 (p:Int)/\0<p/\p<=2*m/\w'=w:=by
 subst hmi;refine enE func173 ntmps173 ?_;refine ρ ?_;refine kv 4 (u:=.int .u64 (m:Int)) (congrArg (Value.int .u64) (Kj om)) ?_;refine cl (Qyz m om w) ?_;rintro v w' ⟨rfl,rfl⟩;refine ρ ?_;refine Jxh rfl rfl om rfl ?_;obtain⟨D,C⟩:=Jlr (x:=m) om;have o:Je m<=48:=Gl om;have j:2^Je m=2*2^(Je m-1):=by rw[<-Nat.pow_succ'];congr 1;omega
 have e:IntKind.u64.wrap (1*2^min ((Je m:Nat):Int).toNat IntKind.u64.bits)=((2^Je m:Nat):Int):=by
  have i:min ((Je m:Nat):Int).toNat IntKind.u64.bits=Je m:=by simp only[Int.toNat_natCast];exact Nat.min_eq_left (by show Je m<=64;omega)
  rw[i,Int.one_mul];have:((2^Je m:Nat):Int)=(2:Int)^Je m:=by push_cast;rfl
  rw[<-this];exact Kj om
 refine kv 6 (congrArg (Value.int .u64) e) ?_;refine ρ ?_;exact Jq ⟨2^Je m,rfl,Nat.pow_pos om,om,rfl⟩
theorem Xwl{fid:FuncId}{first cap:Array Value}{ds:List Bool}(hD:Dat w base (.slice A n c) ps)(hn:ps.length=n)(hmx:n<=140737488355328)(hC:CF w (Value.slice A n c).ownBlock fid first cap ps ds)(hai:ai=(a:Int))(hbi:bi=(b:Int))(hab:a+12<b)(hb:b<=n):
  Ret prog 155 [.slice A n c,.int .i64 ai,.int .i64 bi,.func (.func fid) first cap] w λv w'=>∃ ps',DP w w' base A n c ps ps':=by
 subst hai;subst hbi;refine enE func155 ntmps155 ?_;refine ctR ?_ ?_
 .exact decide_eq_true om
 refine Jv zXor ?_;intro w1 g Z hg J;have H1:=(DP.start hD hn).ext Z;refine Xt (J.cell 0) (J.frozen 0) ?_;have H2:=H1.box J rfl hg (.int .u64 (IntKind.u64.wrap ((b:Int)-(a:Int))));have a6:=J.set 0 (.int .u64 (IntKind.u64.wrap ((b:Int)-(a:Int))));refine clR (Qrs (m:=b-a) (mi:=(b:Int)-(a:Int)) om om om _) ?_;rintro v w' ⟨j,rfl,ab,aa,rfl⟩;refine ρ ?_;refine qn (b-a) 4 ?_;refine ρ ?_;have hq:(b-a) / 4<=(b-a)/\3<=(b-a) / 4/\4*((b-a) / 4)<=b-a:=om
 refine Qh (fun (idx:Nat) (q:List Pr)=>[(0,.slice A n c),(1,.int .i64 (a:Int)),(8,.int .i64 ((b:Int)-(a:Int))),(9,.pointer (some ⟨g,0,none⟩)),(10,.int .u64 (j:Int)),(11,.int .i64 (idx:Int))])
  (λidx q w'=>DP w w' base A n c ps q/\(∃ r:Int,Blk w' g 265 [.int .u64 r])/\a<=idx/\idx<=n) (λidx _=>n-idx) (a+((b-a) / 4)*2-1) ps sO ⟨H2,⟨_,a6⟩,om,om⟩ ?_
 rintro idx q w3 ⟨H3,⟨r3,a5⟩,ad,hi⟩;refine ρ ?_;refine qn (b-a) 4 ?_;refine ciR (λh=>?_) (λh=>?_)
 .have a8:idx<=a+((b-a) / 4)*2+1:=by have:=oT h;omega
  refine clR (Qdg H3 a5 hg) ?_;rintro v w4 ⟨O,rfl,a1,a9,H4,G⟩;refine ρ ?_;have ho:∃ o:Nat,bits .and .u64 O (IntKind.u64.wrap ((j:Int)-1))=(o:Int)/\o<2*(b-a):=by
   obtain⟨r,rfl⟩:=Int.eq_ofNat_of_zero_le a1;have e:IntKind.u64.wrap ((j:Int)-1)=((j-1:Nat):Int):=by rw[Kj om];omega
   rw[e];refine⟨r &&& (j-1),bits_and_u64_nat r (j-1) om om,?_⟩;have:=Nat.and_le_right (n:=r) (m:=j-1);omega
  obtain⟨o,a2,ac⟩:=ho;refine Zn (fun (o:Nat)=>[(0,.slice A n c),(1,.int .i64 (a:Int)),(8,.int .i64 ((b:Int)-(a:Int))),(9,.pointer (some ⟨g,0,none⟩)),(10,.int .u64 (j:Int)),(11,.int .i64 (idx:Int)),(12,.int .i64 (o:Int))]) (λo w'=>DP w w' base A n c ps q/\Blk w' g 265 [.int .u64 O]/\o<b-a) ?_ ?_
  .have a7:IntKind.i64.wrap (bits .and .u64 O (IntKind.u64.wrap ((j:Int)-1)))=(o:Int):=by rw[a2];exact Jqv om
   rw[a7];refine ci (λh=>?_) (λh=>?_)
   .have h1:=oT h;refine ρ ?_;exact Jp (o-(b-a)) sO ⟨H4,G,om⟩
   have h1:=oF h;refine ρ ?_;exact Jp o sB ⟨H4,G,om⟩
  rintro o w5 ⟨H5,a4,ho⟩;have C:idx<n:=om
  have D:a+o<n:=om
  refine ρ ?_;refine drC 4 [0,1,2,3,4,5,6,7,8,9,12,13] [(0,10),(0,11),(0,14),(0,15),(0,16),(2,17),(2,18),(2,19)] kr ?_;have i:=H5.drew;obtain⟨s1,s2,s3,⟨u,s4⟩,s5,s6⟩:=i.swap C D;refine ρp ?_;refine dix (a+o) i.rd D ?_;refine Jz (i.cell D) ?_;refine Jg (idx) i.rd C ?_;refine Jz (i.cell C) ?_;refine Jg (idx) i.rd C ?_;refine ρd ?_;refine Qw ?_;refine sto (i.cell C) s1 ?_ (hv:=i.one D);refine ρ ?_;refine Qe ?_;refine Qw ?_;refine ix (a+o) s2 D ?_;refine ρ ?_;refine Qe ?_;refine Qw ?_;refine sto s4 s3 ?_ (hv:=i.one C);refine ρ ?_;have b5:=a4.ext (Ext.refl _).drew;have a3:=b5.grown s6 (b5.ne_own i.d.1 rfl);exact Qk (idx+1) (swp z0 q idx (a+o)) sO ⟨s5,⟨_,a3⟩,om,om⟩ om
 refine ρ ?_;exact Un ⟨q,H3⟩
open Go.RowKit Pl Go.Wk _root_.Go.Proofs.Tryz
variable {cap first:Array Value}{fid:FuncId}{ai bi pvi:Int}{ds:List Bool}{ps:List Pr}{a b base c n:Nat}{A:Option Addr}{w:World}
theorem Qph(hD:Dat w base (.slice A n c) ps)(hn:ps.length=n)(hmx:n<=140737488355328)(hC:CF w (Value.slice A n c).ownBlock fid first cap ps ds){pv:Nat}(hai:ai=(a:Int))(hbi:bi=(b:Int))(hpvi:pvi=(pv:Int))(hab:a<b)(hb:b<=n)(hp0:a<=pv)(hp1:pv<b):
  Ret prog 159 [.slice A n c,.int .i64 ai,.int .i64 bi,.int .i64 pvi,.func (.func fid) first cap] w λv w'=>∃ ps',DP w w' base A n c ps ps'/\∃ m:Nat,v=.int .i64 (m:Int)/\a<m/\m<=b:=by
 subst hai;subst hbi;subst hpvi;refine enE func159 ntmps159 ?_;refine ρ ?_;have H:=DP.start hD hn;have la:a<n:=om
 have lp:pv<n:=om
 refine drC 4 [0,1,2,3,4,5,8,9] [(0,6),(0,7),(0,10),(0,11),(0,12),(2,13),(2,14),(2,15)] kr ?_;have J:=H.drew;obtain⟨s1,s2,s3,⟨u,s4⟩,s5,s6⟩:=J.swap la lp;refine ρp ?_;refine dix (pv) J.rd lp ?_;refine Jz (J.cell lp) ?_;refine Jg (a) J.rd la ?_;refine Jz (J.cell la) ?_;refine Jg (a) J.rd la ?_;refine ρd ?_;refine Qw ?_;refine sto (J.cell la) s1 ?_ (hv:=J.one lp);refine ρ ?_;refine Qe ?_;refine Qw ?_;refine ix (pv) s2 lp ?_;refine ρ ?_;refine Qe ?_;refine Qw ?_;refine sto s4 s3 ?_ (hv:=J.one la);refine ρ ?_;refine Xe (fun (i j:Nat) (q:List Pr)=>[(0,.slice A n c),(1,.int .i64 (a:Int)),(2,.int .i64 (b:Int)),(4,.func (.func fid) first cap),(11,.int .i64 (i:Int)),(12,.int .i64 (j:Int))]) (λi j q w'=>DP w w' base A n c ps q/\a<i/\i<=b/\a<=j/\j<b) (λi j _=>b+j-i) (a+1) (b-1) _ sO ⟨s5,om⟩ ?_;clear s1 s2 s3 s4 s5 s6 u J H;rintro i0 j0 q w1 ⟨H,a6⟩;refine ρ ?_
 refine Qr (fun (i:Nat)=>[(0,.slice A n c),(1,.int .i64 (a:Int)),(2,.int .i64 (b:Int)),(4,.func (.func fid) first cap),(12,.int .i64 (j0:Int)),(11,.int .i64 (i:Int))]) (λi w'=>DP w w' base A n c ps q/\i0<=i/\a<i/\i<=b) (λi=>b-i) i0 sO ⟨H,om⟩ ?_;rintro i wS ⟨HS,a8⟩;refine ρ ?_;refine Zn (fun (t:Bool)=>[(0,.slice A n c),(1,.int .i64 (a:Int)),(2,.int .i64 (b:Int)),(4,.func (.func fid) first cap),(12,.int .i64 (j0:Int)),(11,.int .i64 (i:Int)),(47,.bool t)]) (λt w'=>DP w w' base A n c ps q/\(t=true->i<=j0)) ?_ ?_
 .skip
  refine dr (scq 17 [13]) kr ?_;have o:=HS.drew;refine ρd ?_;refine dki 34 (λh=>?_) (λh=>?_)
  .have hT:i<=j0:=by have:=oT h;omega
   have Z:a<n:=om
   have O:i<n:=om
   refine Jg (a) o.rd Z ?_;refine Jz (o.cell Z) ?_;refine Jg (i) o.rd O ?_;refine Jz (o.cell O) ?_;refine ρd ?_;refine Yy (hC.call o Z O) ?_;rintro r a4 ⟨a5,rfl,D⟩;refine⟨D,?_⟩;have HT:=o.ext D;refine ρd ?_;refine ρ ?_;exact Jp _ sB ⟨HT,λ_=>hT⟩
  refine ρd ?_;refine ρ ?_;exact Jp false sB ⟨o,λe=>by cases e⟩
 rintro t a3 ⟨a2,G⟩;refine ci (λh=>?_) (λh=>?_)
 .have:=G h;refine ρ ?_;exact Qn (i+1) sO ⟨a2,om⟩ om
 clear G HS h;refine ρ ?_;refine Qr (fun (j:Nat)=>[(0,.slice A n c),(1,.int .i64 (a:Int)),(2,.int .i64 (b:Int)),(4,.func (.func fid) first cap),(11,.int .i64 (i:Int)),(12,.int .i64 (j:Int))]) (λj w'=>DP w w' base A n c ps q/\j<=j0/\a<=j/\j<b) (λj=>j) j0 sO ⟨a2,om⟩ ?_;rintro j wS ⟨HS,a7⟩;refine ρ ?_;refine Zn (fun (t:Bool)=>[(0,.slice A n c),(1,.int .i64 (a:Int)),(2,.int .i64 (b:Int)),(4,.func (.func fid) first cap),(11,.int .i64 (i:Int)),(12,.int .i64 (j:Int)),(65,.bool t)]) (λt w'=>DP w w' base A n c ps q/\(t=true->i<=j)) ?_ ?_
 .skip
  refine dr (scq 16 [13]) kr ?_;have o:=HS.drew;refine ρd ?_;refine dki 53 (λh=>?_) (λh=>?_)
  .have hT:i<=j:=by have:=oT h;omega
   have Z:a<n:=om
   have O:j<n:=om
   refine Jg (a) o.rd Z ?_;refine Jz (o.cell Z) ?_;refine Jg (j) o.rd O ?_;refine Jz (o.cell O) ?_;refine ρd ?_;refine Yy (hC.call o Z O) ?_;rintro r a4 ⟨a5,rfl,D⟩;refine⟨D,?_⟩;have HT:=o.ext D;refine ρd ?_;refine ρ ?_;exact Jp _ sB ⟨HT,λ_=>hT⟩
  refine ρd ?_;refine ρ ?_;exact Jp false sB ⟨o,λe=>by cases e⟩
 rintro t a3 ⟨a1,G⟩;refine ci (λh=>?_) (λh=>?_)
 .have:=G h;refine ρ ?_;exact Qn (j-1) sO ⟨a1,om⟩ om
 clear G HS h;refine ciR (λh=>?_) (λh=>?_)
 .refine ρ ?_;exact Jq ⟨q,a1,i,rfl,om,om⟩
 have hT:i<=j:=by have:=oF h;omega
 have li:i<n:=om
 have lj:j<n:=om
 refine ρ ?_;refine drC 4 [0,1,2,3,4,5,8,9] [(0,6),(0,7),(0,10),(0,11),(0,12),(2,13),(2,14),(2,15)] kr ?_;have C:=a1.drew;obtain⟨s1,s2,s3,⟨u,s4⟩,s5,s6⟩:=C.swap li lj;refine ρp ?_;refine dix (j) C.rd lj ?_;refine Jz (C.cell lj) ?_;refine Jg (i) C.rd li ?_;refine Jz (C.cell li) ?_;refine Jg (i) C.rd li ?_;refine ρd ?_;refine Qw ?_;refine sto (C.cell li) s1 ?_ (hv:=C.one lj);refine ρ ?_;refine Qe ?_;refine Qw ?_;refine ix (j) s2 lj ?_;refine ρ ?_;refine Qe ?_;refine Qw ?_;refine sto s4 s3 ?_ (hv:=C.one li);refine ρ ?_;exact Xj (i+1) (j-1) _ sO ⟨s5,om⟩ om
theorem Qpg(hD:Dat w base (.slice A n c) ps)(hn:ps.length=n)(hmx:n<=140737488355328)(hC:CF w (Value.slice A n c).ownBlock fid first cap ps ds){pv:Nat}(hai:ai=(a:Int))(hbi:bi=(b:Int))(hpvi:pvi=(pv:Int))(hab:a<b)(hb:b<=n)(hp0:a<=pv)(hp1:pv<b):
  Ret prog 160 [.slice A n c,.int .i64 ai,.int .i64 bi,.int .i64 pvi,.func (.func fid) first cap] w λv w'=>∃ ps',DP w w' base A n c ps ps'/\∃(m:Nat) (t:Bool),v=.tuple #[.int .i64 (m:Int),.bool t]/\a<=m/\m<b:=by
 subst hai;subst hbi;subst hpvi;refine enE func160 ntmps160 ?_;refine ρ ?_;have H:=DP.start hD hn;have la:a<n:=om
 have lp:pv<n:=om
 refine drC 4 [0,1,2,3,4,5,8,9] [(0,6),(0,7),(0,10),(0,11),(0,12),(2,13),(2,14),(2,15)] kr ?_;have Hd:=H.drew;obtain⟨s1,s2,s3,⟨u,s4⟩,s5,s6⟩:=Hd.swap la lp;refine ρp ?_;refine dix (pv) Hd.rd lp ?_;refine Jz (Hd.cell lp) ?_;refine Jg (a) Hd.rd la ?_;refine Jz (Hd.cell la) ?_;refine Jg (a) Hd.rd la ?_;refine ρd ?_;refine Qw ?_;refine sto (Hd.cell la) s1 ?_ (hv:=Hd.one lp);refine ρ ?_;refine Qe ?_;refine Qw ?_;refine ix (pv) s2 lp ?_;refine ρ ?_;refine Qe ?_;refine Qw ?_;refine sto s4 s3 ?_ (hv:=Hd.one la);refine ρ ?_;generalize hq:swp z0 ps a pv=q at s5
 have H5:=s5;clear s1 s2 s3 s4 s5 s6 u Hd H hq;obtain⟨i0,a8⟩:∃ i0:Nat,i0=a+1:=⟨_,rfl⟩;obtain⟨j0,a7⟩:∃ j0:Nat,j0=b-1:=⟨_,rfl⟩;refine Qr (fun (i:Nat)=>[(0,.slice A n c),(1,.int .i64 (a:Int)),(2,.int .i64 (b:Int)),(4,.func (.func fid) first cap),(13,.int .i64 (j0:Int)),(12,.int .i64 (i:Int))]) (λi w'=>DP w w' base A n c ps q/\i0<=i/\a<i/\i<=b) (λi=>b-i) i0 sO ⟨H5,om⟩ ?_;rintro i wS ⟨HS,a6⟩;refine ρ ?_;refine Zn (fun (t:Bool)=>[(0,.slice A n c),(1,.int .i64 (a:Int)),(2,.int .i64 (b:Int)),(4,.func (.func fid) first cap),(13,.int .i64 (j0:Int)),(12,.int .i64 (i:Int)),(47,.bool t)]) (λt w'=>DP w w' base A n c ps q/\(t=true->i<=j0)) ?_ ?_
 .skip
  refine dr (scq 16 [13]) kr ?_;have C:=HS.drew;refine ρd ?_;refine dki 35 (λh=>?_) (λh=>?_)
  .have hT:i<=j0:=by have:=oT h;omega
   have lx:i<n:=om
   have ly:a<n:=om
   refine Jg (i) C.rd lx ?_;refine Jz (C.cell lx) ?_;refine Jg (a) C.rd ly ?_;refine Jz (C.cell ly) ?_;refine ρd ?_;refine Yy (hC.call C lx ly) ?_;rintro r a3 ⟨a4,rfl,D⟩;refine⟨D,?_⟩;have HT:=C.ext D;refine ρd ?_;refine ρ ?_;exact Jp _ sB ⟨HT,λ_=>hT⟩
  refine ρd ?_;refine ρ ?_;exact Jp false sB ⟨C,λe=>by cases e⟩
 rintro t a2 ⟨a1,O⟩;refine ci (λh=>?_) (λh=>?_)
 .have:=O h;refine ρ ?_;exact Qn (i+1) sO ⟨a1,om⟩ om
 clear O HS h;refine ρ ?_;refine Qr (fun (j:Nat)=>[(0,.slice A n c),(1,.int .i64 (a:Int)),(2,.int .i64 (b:Int)),(4,.func (.func fid) first cap),(12,.int .i64 (i:Int)),(13,.int .i64 (j:Int))]) (λj w'=>DP w w' base A n c ps q/\j<=j0/\a<=j/\j<b) (λj=>j) j0 sO ⟨a1,om⟩ ?_;rintro j wS ⟨HS,a5⟩;refine ρ ?_;refine Zn (fun (t:Bool)=>[(0,.slice A n c),(1,.int .i64 (a:Int)),(2,.int .i64 (b:Int)),(4,.func (.func fid) first cap),(12,.int .i64 (i:Int)),(13,.int .i64 (j:Int)),(66,.bool t)]) (λt w'=>DP w w' base A n c ps q/\(t=true->i<=j)) ?_ ?_
 .skip
  refine dr (scq 17 [13]) kr ?_;have C:=HS.drew;refine ρd ?_;refine dki 53 (λh=>?_) (λh=>?_)
  .have hT:i<=j:=by have:=oT h;omega
   have lx:j<n:=om
   have ly:a<n:=om
   refine Jg (j) C.rd lx ?_;refine Jz (C.cell lx) ?_;refine Jg (a) C.rd ly ?_;refine Jz (C.cell ly) ?_;refine ρd ?_;refine Yy (hC.call C lx ly) ?_;rintro r a3 ⟨a4,rfl,D⟩;refine⟨D,?_⟩;have HT:=C.ext D;refine ρd ?_;refine ρ ?_;exact Jp _ sB ⟨HT,λ_=>hT⟩
  refine ρd ?_;refine ρ ?_;exact Jp false sB ⟨C,λe=>by cases e⟩
 rintro t a2 ⟨Z,O⟩;refine ci (λh=>?_) (λh=>?_)
 .have:=O h;refine ρ ?_;exact Qn (j-1) sO ⟨Z,om⟩ om
 clear O HS h;refine ρ ?_;have G:a<n:=om
 have J:j<n:=om
 refine ci (λh=>?_) (λh=>?_)
 .refine ρ ?_;refine drC 4 [0,1,2,3,4,5,8,9] [(0,6),(0,7),(0,10),(0,11),(0,12),(2,13),(2,14),(2,15)] kr ?_;have o:=Z.drew;obtain⟨s1,s2,s3,⟨u,s4⟩,s5,s6⟩:=o.swap J G;refine ρp ?_;refine dix (a) o.rd G ?_;refine Jz (o.cell G) ?_;refine Jg (j) o.rd J ?_;refine Jz (o.cell J) ?_;refine Jg (j) o.rd J ?_;refine ρd ?_;refine Qw ?_;refine sto (o.cell J) s1 ?_ (hv:=o.one G);refine ρ ?_;refine Qe ?_;refine Qw ?_;refine ix (a) s2 G ?_;refine ρ ?_;refine Qe ?_;refine Qw ?_;refine sto s4 s3 ?_ (hv:=o.one J);refine ρ ?_;exact Yn ⟨_,s5,j,true,rfl,om,om⟩
 have hT:i<=j:=by have:=oF h;omega
 have li:i<n:=om
 refine ρ ?_;refine drC 4 [0,1,2,3,4,5,8,9] [(0,6),(0,7),(0,10),(0,11),(0,12),(2,13),(2,14),(2,15)] kr ?_;have o:=Z.drew;obtain⟨s1,s2,s3,⟨u,s4⟩,s5,s6⟩:=o.swap li J;refine ρp ?_;refine dix (j) o.rd J ?_;refine Jz (o.cell J) ?_;refine Jg (i) o.rd li ?_;refine Jz (o.cell li) ?_;refine Jg (i) o.rd li ?_;refine ρd ?_;refine Qw ?_;refine sto (o.cell li) s1 ?_ (hv:=o.one J);refine ρ ?_;refine Qe ?_;refine Qw ?_;refine ix (j) s2 J ?_;refine ρ ?_;refine Qe ?_;refine Qw ?_;refine sto s4 s3 ?_ (hv:=o.one li);refine ρ ?_;refine Xe (fun (i j:Nat) (q:List Pr)=>[(0,.slice A n c),(1,.int .i64 (a:Int)),(2,.int .i64 (b:Int)),(4,.func (.func fid) first cap),(12,.int .i64 (i:Int)),(13,.int .i64 (j:Int))]) (λi j q w'=>DP w w' base A n c ps q/\a<i/\i<=b/\a<=j/\j<b) (λi j _=>b+j-i) (i+1) (j-1) _ sO ⟨s5,om⟩ ?_;clear s1 s2 s3 s4 s5 s6 u o Z a1 a6 a5 a8 a7 G J li hT;clear h q i0 j0 i j H5
 rintro i0 j0 q w1 ⟨H,a9⟩;refine ρ ?_;refine Qr (fun (i:Nat)=>[(0,.slice A n c),(1,.int .i64 (a:Int)),(2,.int .i64 (b:Int)),(4,.func (.func fid) first cap),(13,.int .i64 (j0:Int)),(12,.int .i64 (i:Int))]) (λi w'=>DP w w' base A n c ps q/\i0<=i/\a<i/\i<=b) (λi=>b-i) i0 sO ⟨H,om⟩ ?_;rintro i wS ⟨HS,a6⟩;refine ρ ?_;refine Zn (fun (t:Bool)=>[(0,.slice A n c),(1,.int .i64 (a:Int)),(2,.int .i64 (b:Int)),(4,.func (.func fid) first cap),(13,.int .i64 (j0:Int)),(12,.int .i64 (i:Int)),(120,.bool t)]) (λt w'=>DP w w' base A n c ps q/\(t=true->i<=j0)) ?_ ?_
 .skip
  refine dr (scq 16 [13]) kr ?_;have C:=HS.drew;refine ρd ?_;refine dki 108 (λh=>?_) (λh=>?_)
  .have hT:i<=j0:=by have:=oT h;omega
   have lx:i<n:=om
   have ly:a<n:=om
   refine Jg (i) C.rd lx ?_;refine Jz (C.cell lx) ?_;refine Jg (a) C.rd ly ?_;refine Jz (C.cell ly) ?_;refine ρd ?_;refine Yy (hC.call C lx ly) ?_;rintro r a3 ⟨a4,rfl,D⟩;refine⟨D,?_⟩;have HT:=C.ext D;refine ρd ?_;refine ρ ?_;exact Jp _ sB ⟨HT,λ_=>hT⟩
  refine ρd ?_;refine ρ ?_;exact Jp false sB ⟨C,λe=>by cases e⟩
 rintro t a2 ⟨a1,O⟩;refine ci (λh=>?_) (λh=>?_)
 .have:=O h;refine ρ ?_;exact Qn (i+1) sO ⟨a1,om⟩ om
 clear O HS h;refine ρ ?_;refine Qr (fun (j:Nat)=>[(0,.slice A n c),(1,.int .i64 (a:Int)),(2,.int .i64 (b:Int)),(4,.func (.func fid) first cap),(12,.int .i64 (i:Int)),(13,.int .i64 (j:Int))]) (λj w'=>DP w w' base A n c ps q/\j<=j0/\a<=j/\j<b) (λj=>j) j0 sO ⟨a1,om⟩ ?_;rintro j wS ⟨HS,a5⟩;refine ρ ?_;refine Zn (fun (t:Bool)=>[(0,.slice A n c),(1,.int .i64 (a:Int)),(2,.int .i64 (b:Int)),(4,.func (.func fid) first cap),(12,.int .i64 (i:Int)),(13,.int .i64 (j:Int)),(139,.bool t)]) (λt w'=>DP w w' base A n c ps q/\(t=true->i<=j)) ?_ ?_
 .skip
  refine dr (scq 17 [13]) kr ?_;have C:=HS.drew;refine ρd ?_;refine dki 126 (λh=>?_) (λh=>?_)
  .have hT:i<=j:=by have:=oT h;omega
   have lx:j<n:=om
   have ly:a<n:=om
   refine Jg (j) C.rd lx ?_;refine Jz (C.cell lx) ?_;refine Jg (a) C.rd ly ?_;refine Jz (C.cell ly) ?_;refine ρd ?_;refine Yy (hC.call C lx ly) ?_;rintro r a3 ⟨a4,rfl,D⟩;refine⟨D,?_⟩;have HT:=C.ext D;refine ρd ?_;refine ρ ?_;exact Jp _ sB ⟨HT,λ_=>hT⟩
  refine ρd ?_;refine ρ ?_;exact Jp false sB ⟨C,λe=>by cases e⟩
 rintro t a2 ⟨Z,O⟩;refine ci (λh=>?_) (λh=>?_)
 .have:=O h;refine ρ ?_;exact Qn (j-1) sO ⟨Z,om⟩ om
 clear O HS h;refine ρ ?_;have G:a<n:=om
 have J:j<n:=om
 refine ci (λh=>?_) (λh=>?_)
 .refine ρ ?_;refine drC 4 [0,1,2,3,4,5,8,9] [(0,6),(0,7),(0,10),(0,11),(0,12),(2,13),(2,14),(2,15)] kr ?_;have o:=Z.drew;obtain⟨s1,s2,s3,⟨u,s4⟩,s5,s6⟩:=o.swap J G;refine ρp ?_;refine dix (a) o.rd G ?_;refine Jz (o.cell G) ?_;refine Jg (j) o.rd J ?_;refine Jz (o.cell J) ?_;refine Jg (j) o.rd J ?_;refine ρd ?_;refine Qw ?_;refine sto (o.cell J) s1 ?_ (hv:=o.one G);refine ρ ?_;refine Qe ?_;refine Qw ?_;refine ix (a) s2 G ?_;refine ρ ?_;refine Qe ?_;refine Qw ?_;refine sto s4 s3 ?_ (hv:=o.one J);refine ρ ?_;exact Yn ⟨_,s5,j,false,rfl,om,om⟩
 have hT:i<=j:=by have:=oF h;omega
 have li:i<n:=om
 refine ρ ?_;refine drC 4 [0,1,2,3,4,5,8,9] [(0,6),(0,7),(0,10),(0,11),(0,12),(2,13),(2,14),(2,15)] kr ?_;have o:=Z.drew;obtain⟨s1,s2,s3,⟨u,s4⟩,s5,s6⟩:=o.swap li J;refine ρp ?_;refine dix (j) o.rd J ?_;refine Jz (o.cell J) ?_;refine Jg (i) o.rd li ?_;refine Jz (o.cell li) ?_;refine Jg (i) o.rd li ?_;refine ρd ?_;refine Qw ?_;refine sto (o.cell li) s1 ?_ (hv:=o.one J);refine ρ ?_;refine Qe ?_;refine Qw ?_;refine ix (j) s2 J ?_;refine ρ ?_;refine Qe ?_;refine Qw ?_;refine sto s4 s3 ?_ (hv:=o.one li);refine ρ ?_;exact Xj (i+1) (j-1) _ sO ⟨s5,om⟩ om
theorem Qpf(hD:Dat w base (.slice A n c) ps)(hn:ps.length=n)(hmx:n<=140737488355328)(hC:CF w (Value.slice A n c).ownBlock fid first cap ps ds)(hai:ai=(a:Int))(hbi:bi=(b:Int))(hab:a+1<b)(hb:b<=n):
  Ret prog 158 [.slice A n c,.int .i64 ai,.int .i64 bi,.func (.func fid) first cap] w λv w'=>∃ ps',DP w w' base A n c ps ps'/\∃ t:Bool,v=.bool t:=by
 subst hai;subst hbi;refine enE func158 ntmps158 ?_;refine ρ ?_;refine Xe (fun (k i:Nat) (q:List Pr)=>[(0,.slice A n c),(1,.int .i64 (a:Int)),(2,.int .i64 (b:Int)),(3,.func (.func fid) first cap),(9,.int .i64 (i:Int)),(10,.int .i64 (k:Int))]) (λk i q w'=>DP w w' base A n c ps q/\a<i/\i<=b/\k<=5) (λk _ _=>5-k) 0 (a+1) ps sO ⟨DP.start hD hn,om⟩ ?_;rintro k i0 q w1 ⟨H,a5⟩;refine ciR (λh=>?_) (λh=>?_);rotate_left
 .refine ρ ?_;exact Jq ⟨q,H,false,rfl⟩
 have hk:k<5:=by have:=oT h;omega
 clear h;refine ρ ?_;refine Qr (fun (i:Nat)=>[(0,.slice A n c),(1,.int .i64 (a:Int)),(2,.int .i64 (b:Int)),(3,.func (.func fid) first cap),(10,.int .i64 (k:Int)),(9,.int .i64 (i:Int))]) (λi w'=>DP w w' base A n c ps q/\i0<=i/\a<i/\i<=b) (λi=>b-i) i0 sO ⟨H,om⟩ ?_;rintro i wS ⟨HS,a7⟩;refine ρ ?_;refine Zn (fun (t:Bool)=>[(0,.slice A n c),(1,.int .i64 (a:Int)),(2,.int .i64 (b:Int)),(3,.func (.func fid) first cap),(10,.int .i64 (k:Int)),(9,.int .i64 (i:Int)),(36,.bool t)]) (λt w'=>DP w w' base A n c ps q/\(t=true->i<b)) ?_ ?_
 .skip
  refine dr (scq 18 [14]) kr ?_;have G:=HS.drew;refine ρd ?_;refine dki 22 (λh=>?_) (λh=>?_)
  .have hT:i<b:=by have:=oT h;omega
   have Z:i<n:=om
   have ly:i-1<n:=om
   refine Jg (i) G.rd Z ?_;refine Jz (G.cell Z) ?_;refine Jg (i-1) G.rd ly ?_;refine Jz (G.cell ly) ?_;refine ρd ?_;refine Yy (hC.call G Z ly) ?_;rintro r a1 ⟨a3,rfl,C⟩;refine⟨C,?_⟩;have HT:=G.ext C;refine ρd ?_;refine ρ ?_;exact Jp _ sB ⟨HT,λ_=>hT⟩
  refine ρd ?_;refine ρ ?_;exact Jp false sB ⟨G,λe=>by cases e⟩
 rintro t a4 ⟨O,a2⟩;refine ci (λh=>?_) (λh=>?_)
 .have:=a2 h;refine ρ ?_;exact Qn (i+1) sO ⟨O,om⟩ om
 clear a2 HS h;refine ciR (λh=>?_) (λh=>?_)
 .refine ρ ?_;exact Jq ⟨q,O,true,rfl⟩
 have a6:i<b:=by have:=Zk h;omega
 clear h;refine ciR (λh=>?_) (λh=>?_)
 .refine ρ ?_;exact Jq ⟨q,O,false,rfl⟩
 clear h;have Z:i<n:=om
 have ly:i-1<n:=om
 refine ρ ?_;refine drC 4 [0,1,2,3,4,5,6,7,10,11] [(0,8),(0,9),(0,12),(0,13),(0,14),(2,15),(2,16),(2,17)] kr ?_;have o:=O.drew;obtain⟨s1,s2,s3,⟨u,s4⟩,s5,s6⟩:=o.swap Z ly;refine ρp ?_;refine dix (i-1) o.rd ly ?_;refine Jz (o.cell ly) ?_;refine Jg (i) o.rd Z ?_;refine Jz (o.cell Z) ?_;refine Jg (i) o.rd Z ?_;refine ρd ?_;refine Qw ?_;refine sto (o.cell Z) s1 ?_ (hv:=o.one ly);refine ρ ?_;refine Qe ?_;refine Qw ?_;refine ix (i-1) s2 ly ?_;refine ρ ?_;refine Qe ?_;refine Qw ?_;refine sto s4 s3 ?_ (hv:=o.one Z);refine ρ ?_;have H5:=s5;clear s1 s2 s3 s4 s5 s6 u o O H;generalize swp z0 q i (i-1)=q5 at H5
 refine Zn (fun (q:List Pr)=>[(0,.slice A n c),(1,.int .i64 (a:Int)),(2,.int .i64 (b:Int)),(3,.func (.func fid) first cap),(9,.int .i64 (i:Int)),(10,.int .i64 (k:Int))]) (λq w'=>DP w w' base A n c ps q) ?_ ?_
 .refine ci (λh=>?_) (λh=>?_);rotate_left
  .refine ρ ?_;exact Jp _ sB H5
  refine ρ ?_;refine Qh (fun (m:Nat) (q:List Pr)=>[(0,.slice A n c),(1,.int .i64 (a:Int)),(2,.int .i64 (b:Int)),(3,.func (.func fid) first cap),(9,.int .i64 (i:Int)),(10,.int .i64 (k:Int)),(11,.int .i64 (m:Int))]) (λm q w'=>DP w w' base A n c ps q/\m<n) (λm _=>m) (i-1) q5 sO ⟨H5,om⟩ ?_;rintro m q w2 ⟨H,hm⟩;refine ciR (λh=>?_) (λh=>?_);rotate_left
  .refine ρ ?_;exact Jp _ sB H
  have h1:1<=m:=by have:=oT h;omega
  have D:m-1<n:=om
  refine drR (scq 13 [10]) ?_;have J:=H.drew;refine ρd ?_;refine Jg (m) J.rd hm ?_;refine Jz (J.cell hm) ?_;refine Jg (m-1) J.rd D ?_;refine Jz (J.cell D) ?_;refine ρd ?_;refine Yy (hC.call J hm D) ?_;rintro r a1 ⟨a3,rfl,C⟩;refine⟨C,?_⟩;have HT:=J.ext C;refine ρd ?_;refine ciR (λh=>?_) (λh=>?_)
  .refine ρ ?_;exact Jp _ sB HT
  refine ρ ?_;refine drC 4 [0,1,2,3,4,5,6,7,10,11] [(0,8),(0,9),(0,12),(0,13),(0,14),(2,15),(2,16),(2,17)] kr ?_;have j:=HT.drew;obtain⟨s1,s2,s3,⟨u,s4⟩,s5,s6⟩:=j.swap hm D;refine ρp ?_;refine dix (m-1) j.rd D ?_;refine Jz (j.cell D) ?_;refine Jg (m) j.rd hm ?_;refine Jz (j.cell hm) ?_;refine Jg (m) j.rd hm ?_;refine ρd ?_;refine Qw ?_;refine sto (j.cell hm) s1 ?_ (hv:=j.one D);refine ρ ?_;refine Qe ?_;refine Qw ?_;refine ix (m-1) s2 D ?_;refine ρ ?_;refine Qe ?_;refine Qw ?_;refine sto s4 s3 ?_ (hv:=j.one hm);refine ρ ?_;exact Qk (m-1) _ sO ⟨s5,om⟩ om
 clear H5 q5;rintro q5 w5 H5;refine ciR (λh=>?_) (λh=>?_);rotate_left
 .refine ρ ?_;exact Xj (k+1) i q5 sO ⟨H5,om⟩ om
 refine ρ ?_;refine Qh (fun (m:Nat) (q:List Pr)=>[(0,.slice A n c),(1,.int .i64 (a:Int)),(2,.int .i64 (b:Int)),(3,.func (.func fid) first cap),(9,.int .i64 (i:Int)),(10,.int .i64 (k:Int)),(12,.int .i64 (m:Int))]) (λm q w'=>DP w w' base A n c ps q/\0<m/\m<=b) (λm _=>b-m) (i+1) q5 sO ⟨H5,om⟩ ?_;rintro m q w2 ⟨H,hm⟩;refine ciR (λh=>?_) (λh=>?_);rotate_left
 .refine ρ ?_;exact Xj (k+1) i q sO ⟨H,om⟩ om
 have h1:m<n:=by have:=oT h;omega
 have h2:m<b:=by have:=oT h;omega
 have D:m-1<n:=om
 refine drR (scq 13 [10]) ?_;have J:=H.drew;refine ρd ?_;refine Jg (m) J.rd h1 ?_;refine Jz (J.cell h1) ?_;refine Jg (m-1) J.rd D ?_;refine Jz (J.cell D) ?_;refine ρd ?_;refine Yy (hC.call J h1 D) ?_;rintro r a1 ⟨a3,rfl,C⟩;refine⟨C,?_⟩;have HT:=J.ext C;refine ρd ?_;refine ciR (λh=>?_) (λh=>?_)
 .refine ρ ?_;exact Xj (k+1) i q sO ⟨HT,om⟩ om
 refine ρ ?_;refine drC 4 [0,1,2,3,4,5,6,7,10,11] [(0,8),(0,9),(0,12),(0,13),(0,14),(2,15),(2,16),(2,17)] kr ?_;have j:=HT.drew;obtain⟨s1,s2,s3,⟨u,s4⟩,s5,s6⟩:=j.swap h1 D;refine ρp ?_;refine dix (m-1) j.rd D ?_;refine Jz (j.cell D) ?_;refine Jg (m) j.rd h1 ?_;refine Jz (j.cell h1) ?_;refine Jg (m) j.rd h1 ?_;refine ρd ?_;refine Qw ?_;refine sto (j.cell h1) s1 ?_ (hv:=j.one D);refine ρ ?_;refine Qe ?_;refine Qw ?_;refine ix (m-1) s2 D ?_;refine ρ ?_;refine Qe ?_;refine Qw ?_;refine sto s4 s3 ?_ (hv:=j.one h1);refine ρ ?_;exact Qk (m+1) _ sO ⟨s5,om⟩ om
open Go.RowKit Pl Go.Wk
variable {ps q q':List Pr}{base c n:Nat}{A:Option Addr}{w w' w0:World}
theorem DP.same(h:DP w0 w base A n c ps q)(k:DP w w' base A n c q q): DP w0 w' base A n c ps q:=h.after k
theorem DP.ins{a b:Nat}(h:DP w0 w base A n c ps q)(k1:Dat w' base (.slice A n c) q')(k2:Seg z0 a b q q')(k3:w.grownBy w' (Value.slice A n c).ownBlock): DP w0 w' base A n c ps q' :=
 ⟨k1,k2.perm.trans h.p,Zy h.g k3,by rw[k2.len];exact h.l⟩
theorem Qpb: ∀(m:Nat) {w:World} {base:Nat} {A:Option Addr} {n c:Nat} {fid:FuncId} {first cap:Array Value} {ps:List Pr} {ds:List Bool} (hD:Dat w base (.slice A n c) ps) (hn:ps.length=n) (hmx:n<=140737488355328) (hC:CF w (Value.slice A n c).ownBlock fid first cap ps ds) {a b:Nat} {ai bi lim:Int} (hai:ai=(a:Int)) (hbi:bi=(b:Int)) (hab:a<=b) (hb:b<=n) (hl:0<=lim/\lim<=64) (hm:b-a<=m),
  Ret Tryz.prog 126 [.slice A n c,.int .i64 ai,.int .i64 bi,.int .i64 lim,.func (.func fid) first cap] w λv w'=>∃ ps',DP w w' base A n c ps ps':=by
 intro m;induction m using Nat.strongRecOn with
 | ind m ih=>
 intro w base A n c fid first cap ps ds hD hn hmx hC a b ai bi lim hai hbi hab hb hl hm
 subst hai;subst hbi;refine enE Tryz.func126 Tryz.ntmps126 ?_;refine ρ ?_;refine Jjt (fun (ab:Nat×Nat) (lt:Int×Bool) (wp:Bool) (q:List Pr)=>[(0,.slice A n c),(1,.int .i64 (ab.1:Int)),(2,.int .i64 (ab.2:Int)),(3,.int .i64 lt.1),(4,.func (.func fid) first cap),(10,.bool lt.2),(11,.bool wp)])
  (λab lt wp q w'=>DP w w' base A n c ps q/\ab.1<=ab.2/\ab.2<=n/\ab.2-ab.1<=m/\0<=lt.1/\lt.1<=64) (λab _ _ _=>ab.2-ab.1) (a,b) (lim,true) true ps sB ⟨DP.start hD hn,om,om,om,om,om⟩ ?_
 clear hD hab hb hm;rintro⟨a,b⟩ ⟨lim,wb⟩ C q w1 ⟨H,hab,hb,hm,Z,O⟩;simp only at hab hb hm Z O;refine ciR (λh=>?_) (λh=>?_)
 .refine clR (Qkf (ai:=(a:Int)) (bi:=(b:Int)) H.d H.l rfl rfl hb om hmx (hC.step H).pack) ?_;rintro v w2 ⟨D,k1,k2,k3,k4⟩;refine ρ ?_;exact Jkf ⟨D,H.ins k1 k2 k4⟩
 have a2:a+12<b:=by have:=oF h;omega
 clear h;refine ciR (λh=>?_) (λh=>?_)
 .refine clR (Xqg (a:=a) (b:=b) H.d H.l hmx (hC.step H) rfl rfl om hb) ?_;rintro v w2 ⟨D,o⟩;refine ρ ?_;exact Jkf ⟨D,H.after o⟩
 have a6:lim≠0:=Zk h;clear h;refine ρ ?_;refine Jjv (fun (lim:Int) (q:List Pr)=>[(0,.slice A n c),(1,.int .i64 (a:Int)),(2,.int .i64 (b:Int)),(3,.int .i64 lim),(4,.func (.func fid) first cap),(10,.bool wb),(11,.bool C),(12,.int .i64 ((b:Int)-(a:Int)))]) (λlim q w'=>DP w w' base A n c ps q/\0<=lim/\lim<=64) ?_ ?_
 .refine ci (λh=>?_) (λh=>?_)
  .refine clR (Xwl (a:=a) (b:=b) H.d H.l hmx (hC.step H) rfl rfl a2 hb) ?_;rintro v w2 ⟨D,o⟩;refine ρ ?_;exact Vs (lim-1) D sB ⟨H.after o,om,om⟩
  refine ρ ?_;exact Vs lim q sB ⟨H,om,om⟩
 clear H Z O a6 lim q;rintro lim q w2 ⟨H,Z,O⟩;refine clR (Xkt (a:=a) (b:=b) H.d H.l hmx (hC.step H) rfl rfl a2 hb) ?_;rintro v w3 ⟨pv,i,rfl,J,G,o⟩;have u:=H.same o;clear H o;refine ρ ?_;refine Jrp (fun (pv:Nat) (i:Int) (q:List Pr)=>[(0,.slice A n c),(1,.int .i64 (a:Int)),(2,.int .i64 (b:Int)),(3,.int .i64 lim),(4,.func (.func fid) first cap),(10,.bool wb),(11,.bool C),(12,.int .i64 ((b:Int)-(a:Int))),(13,.int .i64 (pv:Int)),(14,.int .i64 i)]) (λpv i q w'=>DP w w' base A n c ps q/\a<=pv/\pv<b) ?_ ?_
 .refine ci (λh=>?_) (λh=>?_)
  .refine clR (Qmp (a:=a) (b:=b) u.d u.l hmx (hC.step u) rfl rfl om hb) ?_;rintro v w2 ⟨D,o⟩;refine ρ ?_;exact Jbx (b-1-(pv-a)) 1 D sO ⟨u.after o,om,om⟩
  refine ρ ?_;exact Jbx pv i q sB ⟨u,J,G⟩
 clear u J G pv i q;rintro pv i q w3 ⟨H,J,G⟩;refine ρ ?_;refine Ue (fun (t:Bool)=>[(0,.slice A n c),(1,.int .i64 (a:Int)),(2,.int .i64 (b:Int)),(3,.int .i64 lim),(4,.func (.func fid) first cap),(10,.bool wb),(11,.bool C),(12,.int .i64 ((b:Int)-(a:Int))),(13,.int .i64 (pv:Int)),(75,.bool t)]) (λt w'=>DP w w' base A n c ps q) ?_ ?_
 .refine ki 69 (λh=>?_) (λh=>?_)
  .refine ρ ?_;refine ki 72 (λh=>?_) (λh=>?_)
   .refine ρ ?_;exact Jp _ sB H
   refine ρ ?_;exact Jp _ sB H
  refine ρ ?_;exact Jp _ sB H
 clear H;rintro t w4 H;refine Zn (fun (q:List Pr)=>[(0,.slice A n c),(1,.int .i64 (a:Int)),(2,.int .i64 (b:Int)),(3,.int .i64 lim),(4,.func (.func fid) first cap),(10,.bool wb),(11,.bool C),(12,.int .i64 ((b:Int)-(a:Int))),(13,.int .i64 (pv:Int))]) (λq w'=>DP w w' base A n c ps q) ?_ ?_
 .refine ci (λh=>?_) (λh=>?_)
  .refine clR (Qpf (a:=a) (b:=b) H.d H.l hmx (hC.step H) rfl rfl om hb) ?_;rintro v w2 ⟨D,o,t2,rfl⟩;refine ciR (λh=>?_) (λh=>?_)
   .refine ρ ?_;exact Jkf ⟨D,H.after o⟩
   refine ρ ?_;exact Jp _ sB (H.after o)
  refine ρ ?_;exact Jp _ sB H
 clear H q;rintro q w5 H;refine ρ ?_;refine Zn (fun (t:Bool)=>[(0,.slice A n c),(1,.int .i64 (a:Int)),(2,.int .i64 (b:Int)),(3,.int .i64 lim),(4,.func (.func fid) first cap),(10,.bool wb),(11,.bool C),(12,.int .i64 ((b:Int)-(a:Int))),(13,.int .i64 (pv:Int)),(97,.bool t)]) (λt w'=>DP w w' base A n c ps q) ?_ ?_
 .skip
  refine dr (scq 17 [13]) kr ?_;have Hd:=H.drew;refine ρd ?_;refine dki 83 (λh=>?_) (λh=>?_)
  .have hT:0<a:=by have:=oT h;omega
   have lx:a-1<n:=om
   have ly:pv<n:=om
   refine Jg (a-1) Hd.rd lx ?_;refine Jz (Hd.cell lx) ?_;refine Jg (pv) Hd.rd ly ?_;refine Jz (Hd.cell ly) ?_;refine ρd ?_;refine Yy (hC.call Hd lx ly) ?_;rintro r a7 ⟨a8,rfl,a1⟩;refine⟨a1,?_⟩;have HT:=Hd.ext a1;refine ρd ?_;refine ρ ?_;exact Jp _ sB HT
  refine ρd ?_;refine ρ ?_;exact Jp false sB Hd
 clear H;rintro t2 w6 H;refine ci (λh=>?_) (λh=>?_)
 .refine clR (Qph (a:=a) (b:=b) (pv:=pv) H.d H.l hmx (hC.step H) rfl rfl rfl om hb J G) ?_;rintro v w2 ⟨D,o,j,rfl,a5,a4⟩;refine ρ ?_;exact Kk (j,b) (lim,wb) C D sB ⟨H.after o,by simp only;omega,by simp only;omega,by simp only;omega,by simp only;omega,by simp only;omega⟩ (by simp only;omega)
 refine clR (Qpg (a:=a) (b:=b) (pv:=pv) H.d H.l hmx (hC.step H) rfl rfl rfl om hb J G) ?_;rintro v w7 ⟨D,o,j,a3,rfl,a5,a4⟩;have u:=H.after o;clear H o;refine ρ ?_;refine qn (b-a) 8 ?_;refine ciR (λh=>?_) (λh=>?_)
 .refine clR (ih (j-a) om u.d u.l hmx (hC.step u) (a:=a) (b:=j) rfl rfl om om ⟨Z,O⟩ (nR _)) ?_;rintro v w8 ⟨q3,H4⟩;refine ρ ?_;exact Kk (j+1,b) (lim,_) a3 q3 sO ⟨u.after H4,by simp only;omega,by simp only;omega,by simp only;omega,by simp only;omega,by simp only;omega⟩ (by simp only;omega)
 refine clR (ih (b-(j+1)) om u.d u.l hmx (hC.step u) (a:=j+1) (b:=b) (ai:=(j:Int)+1) om rfl om om ⟨Z,O⟩ (nR _)) ?_;rintro v w8 ⟨q3,H4⟩;refine ρ ?_;exact Kk (a,j) (lim,_) a3 q3 sO ⟨u.after H4,by simp only;omega,by simp only;omega,by simp only;omega,by simp only;omega,by simp only;omega⟩ (by simp only;omega)
end Go.Proofs.YtcdccafgdnblaaaGreatDoor
namespace Go.Wk
open Go.RowKit
variable {cs xs:List Value}{base e m n:Nat}{N N':Nat->Prop}{A:Option Addr}{g:Option Nat}{v x:Value}{a w w':World}
structure GrN(N:Nat->Prop)(w w':World): Prop where
 os:w'.os=w.os
 tape:w'.tape=w.tape
 output:w'.output=w.output
 size:w.heap.size<=w'.heap.size
 block:∀ k,k<w.heap.size->¬ N k->w'.heap[k]?=w.heap[k]?
theorem GrN.refl(N:Nat->Prop)(w:World): GrN N w w:=⟨rfl,rfl,rfl,Nat.le_refl _,λ_ _ _=>rfl⟩
theorem GrN.ext(h:Ext w w'): GrN N w w':=⟨h.os,h.tape,h.output,h.size,λk i _=>h.block k i⟩
theorem GrN.trans{N:Nat->Prop}{a b c:World}(h:GrN N a b)(k:GrN N b c): GrN N a c :=
 ⟨k.os.trans h.os,k.tape.trans h.tape,k.output.trans h.output,Nat.le_trans h.size k.size,λj i hn=>(k.block j (nM i h.size) hn).trans (h.block j i hn)⟩
theorem GrN.by(h:w.grownBy w' g)(hg:∀ k,g=some k->N k): GrN N w w':=⟨h.os,h.tape,h.output,h.size,λk i hn=>h.block k i (λe=>hn (hg k e.symm))⟩
theorem GrN.set{p:Addr}(u:Value)(hp:N p.block): GrN N w (w.setCell p u):=by
 refine⟨rfl,rfl,rfl,by simp[World.setCell],λk i hn=>Below.heap_setCell w p u k ?_⟩;grind
theorem GrN.mono(h:GrN N w w')(hN:∀ k,k<w.heap.size->N k->N' k): GrN N' w w':=⟨h.os,h.tape,h.output,h.size,λk i hn=>h.block k i (λe=>hn (hN k i e))⟩
theorem GrN.old(h:GrN N w w')(hx:Ext a w)(hN:∀ k,N k->a.heap.size<=k): Ext a w' :=
 ⟨h.os.trans hx.os,h.tape.trans hx.tape,h.output.trans hx.output,Nat.le_trans hx.size h.size,λk i=>(h.block k (nM i hx.size) (λe=>by have:=hN k e;omega)).trans (hx.block k i)⟩
theorem GrN.toExt(h:GrN (λ_=>False) w w'): Ext w w':=⟨h.os,h.tape,h.output,h.size,λk i=>h.block k i (λe=>e)⟩
def Off(N:Nat->Prop)(w:World)(Φ:World->Prop): Prop:=∀ w',GrN N w w'->Φ w'
section
variable {N N':Nat->Prop} {w w':World} {Φ Ψ:World->Prop}
theorem Off.here(h:Off N w Φ): Φ w:=h w (GrN.refl N w)
theorem Off.gr(h:Off N w Φ)(hg:GrN N w w'): Off N w' Φ:=λi j=>h i (hg.trans j)
theorem Off.ext(h:Off N w Φ)(hx:Ext w w'): Off N w' Φ:=h.gr (GrN.ext hx)
theorem Off.mono(h:Off N w Φ)(hN:∀ k,k<w.heap.size->N' k->N k): Off N' w Φ:=λw' i=>h w' (i.mono hN)
theorem Off.imp(h:Off N w Φ)(hi:∀ u,Φ u->Ψ u): Off N w Ψ:=λw' i=>hi w' (h w' i)
theorem Off.and(h:Off N w Φ)(k:Off N w Ψ): Off N w (λu=>Φ u/\Ψ u):=λw' i=>⟨h w' i,k w' i⟩
theorem Off.grown(h:Off N w Φ)(hg:w.grownBy w' g)(hN:∀ k,g=some k->N k): Off N w' Φ:=h.gr (GrN.by hg hN)
theorem Off.set(h:Off N w Φ){p:Addr}(u:Value)(hp:N p.block): Off N (w.setCell p u) Φ:=h.gr (GrN.set u hp)
theorem Off.old{a:World}(hΦ:∀ u,Ext a u->Φ u)(hx:Ext a w)(hN:∀ k,N k->a.heap.size<=k): Off N w Φ:=λw' i=>hΦ w' (i.old hx hN)
theorem Yq{sz:Nat}(h:Rd w sz A n cs)(hg:GrN N w w')(hA:0<cs.length->∀ ad,A=some ad->¬ N ad.block): Rd w' sz A n cs :=
 ⟨h.1,λh0=>by
  obtain⟨ad,e,i,C⟩:=h.2 h0;refine⟨ad,e,Nat.lt_of_lt_of_le i hg.size,λj u o=>?_⟩;rw[<-C j u o];exact World.cell?_of_block (by rw[Uy];exact hg.block _ i (hA h0 ad e))⟩
theorem Kz{sz:Nat}(h:Rd w sz A n cs)(hA:0<cs.length->∀ ad,A=some ad->¬ N ad.block): Off N w (λu=>Rd u sz A n cs):=λw' i=>Yq h i hA
theorem Jb{g:Nat}{t:TypeId}(h:Blk w g t cs)(hg:GrN N w w')(hn:¬ N g): Blk w' g t cs:=(hg.block g h.lt hn).trans h
theorem Qj{sz:Nat}(h:w.ownsRow base e sz v m xs)(hg:GrN N w w')(hn:∀ g,v.ownBlock=some g->¬ N g): w'.ownsRow base e sz v m xs:=by
 rcases h with⟨C,⟨rfl,rfl⟩|⟨g,u,o,rfl,O,G,j,D,J,ht⟩⟩
 .exact⟨C,.inl ⟨rfl,rfl⟩⟩
 refine⟨C,.inr ⟨g,u,o,rfl,O,?_,j,D,J,ht⟩⟩;have i:g<w.heap.size:=by grind
 rw[hg.block g i (hn g rfl)];exact G
theorem Jzc{sz:Nat}(h:w.ownsRow base e sz v m xs)(hn:∀ g,v.ownBlock=some g->¬ N g): Off N w (λu=>u.ownsRow base e sz v m xs):=λw' i=>Qj h i hn
end
theorem Vj{P:Program}{al:AL}{tt:TT}[h:Tab P tt]{fn:Func}{Φ:Value->World->Prop}{c t t1 b:Nat}{k:TK}(hb:Blk w b t cs)(hp:Φ (.tuple #[.agg cs.toArray,x]) w)(hr:fn.results = #[.cell c t,.tmp t1]:=by rfl)(ht:tk tt t=some k:=by rfl)(hk:k.desc=.invalid:=by rfl)(hs:k.size=cs.length:=by rfl)(hc:lk al c=some (.pointer (some ⟨b,0,none⟩)):=by rfl)(h1:lk al t1=some x:=by rfl):
  QX n (Vu P fn Φ) .ret al w :=
 Jkh (rs:=[.cell c t,.tmp t1]) (vs:=[.agg cs.toArray,x]) hr ⟨⟨_,hc,Jqc h.ok ht hk hs (λj u i=>hb.at i)⟩,h1,trivial⟩ rfl hp
end Go.Wk
