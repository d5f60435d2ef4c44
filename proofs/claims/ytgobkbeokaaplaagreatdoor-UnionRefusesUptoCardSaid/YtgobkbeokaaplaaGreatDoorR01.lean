/- Part 1. -/
import Derived.Test.YtgobkbeokaaplaaGreatDoorR00
import Derived.Test.YtgobkbeokaaplaaGreatDoorRows
import Derived.IntWalk
import Derived.Laws.Cover3
import Derived.Lib.Bytealg
import Derived.Laws.Bits64b
set_option linter.unusedVariables false
set_option maxRecDepth 100000
set_option maxHeartbeats 40000000
namespace Go.Wk
open Go.RowKit
variable {cs xs:List Value}{base c e j m:Nat}{A:Option Addr}
section
variable {P:Program} {n:Nat} {al:AL} {w:World} {Q:Exit->Act->World->Prop} {ops:Array Oper} {rest:List Oper}
variable {d ty:Nat} {op:Op} {pos:String} {aft:Array Edge} {tt:TT}
theorem Qsk{sz:Nat}(ho:w.ownsRow base e sz (.slice A m c) m xs)(hj:j<m)(hl:cs.length=sz)(h1:∀ u∈cs,u.oneCell'=true):
  ∃ w',(storeCells (adr A (j*sz)) cs).run P w=.ok () w'/\w'.ownsRow base e sz (.slice A m c) m (xs.take (j*sz)++cs++xs.drop (j*sz+sz))/\w.grownBy w' (Value.slice A m c).ownBlock:=by
 rcases ho.2 with⟨_,h0⟩|⟨g,cap,cur,hv,hb,hg,hc,hcm,hcs,ht⟩
 .omega
 injection hv with C _ e3
 subst C;subst e3;have G:j*sz+sz<=m*sz:=by have:=nO sz hj;grind
 have D:m*sz<=c*sz:=nO _ hc;have J:adr (some ⟨g,0,none⟩) (j*sz)=⟨g,j*sz,none⟩:=by simp[adr,Uj]
 rw[J];have i:=run_storeCells_at (P:=P) g (j*sz) e cs 0 cur w hg om h1;simp only[Nat.add_zero]at i;refine⟨_,i,⟨?_,.inr ⟨g,c,_,rfl,hb,setRow_heap w g cur _ e (0,0) hg,hc,hcm,?_,?_⟩⟩,?_⟩
 .grind
 .grind
 .simp only;have o:(cur.toList.take (j*sz)++cs).length=j*sz+sz:=by grind
  rw[List.take_append,o];have C:(cur.toList.take (j*sz)++cs).take (m*sz)=cur.toList.take (j*sz)++cs:=List.take_of_length_le om;rw[C,<-ht,List.take_take,Nat.min_eq_left om,List.drop_take,hl]
 have:=Jqr w g (cur.toList.take (j*sz)++cs++cur.toList.drop (j*sz+cs.length)).toArray;exact this
theorem stoE[h:Tab P tt]{x y:Operand}{t sz:Nat}{k:TK}(ho:w.ownsRow base e sz (.slice A m c) m xs)(hj:j<m)(kk:∀ w1,w1.ownsRow base e sz (.slice A m c) m (xs.take (j*sz)++cs++xs.drop (j*sz+sz))->w.grownBy w1 (Value.slice A m c).ownBlock->WL P n ops Q rest al w1)(h1:∀ u∈cs,u.oneCell'=true)(ht:tk tt t=some k:=by rfl)(hk:k.desc=.invalid:=by rfl)(hs:k.size=sz:=by rfl)(hl:cs.length=sz:=by rfl)(hx:ev al x=some (.pointer (some (adr A (j*sz)))):=by rfl)(hy:ev al y=some (.agg cs.toArray):=by rfl):
  WL P n ops Q (⟨none,.store t x y,ty,pos,aft,none⟩::rest) al w:=by
 obtain⟨w',o,C,D⟩:=Qsk (P:=P) ho hj hl h1;refine Jjr (λa G=>?_) (kk w' C D);have i:=Yd w (Jxl h.ok ht hk w).2;simp[execOp,G.ev hx,G.ev hy,Instr.storeAt,Instr.sureAddr,storeVar,Value.cells,i,hs,hl,o]
end
end Go.Wk
namespace Go.Wk
open Go.RowKit
variable {p q:Bool}{cs vs:List Value}{e len:Nat}{x y:Operand}{k:TK}{t t2:TypeId}
section
variable {P:Program} {n:Nat} {al:AL} {w:World} {Q:Exit->Act->World->Prop} {ops:Array Oper} {rest:List Oper} {drest:List (Nat×Oper)}
variable {d ty:Nat} {op:Op} {pos:String} {aft:Array Edge} {tt:TT}
def toE(P:Program)(ops:Array Oper)(Q:Exit->Act->World->Prop)(w0:World)(rest:List (Nat×Oper)): Exit->Act->World->Prop
 | .normal,a,w=>Ext w0 w/\Xk P ops Q rest a w
 | _,_,_=>False
theorem Jqt{w0:World}(hx:Ext w0 w)(h:WD P n ops Q drest al w): QX n (toE P ops Q w0 drest) .normal al w:=λa i=>⟨hx,h a i⟩
theorem Jqv{o:Oper}(h:WL P n ops (toE P ops Q w drest) [o] al w): WD P n ops Q ((1,o)::drest) al w:=λa u=>by
 have i:=h a u;unfold wpList at i;unfold Xk wk1;simp only;have j:¬ LetsOut (toE P ops Q w drest):=by rintro⟨a,w,h⟩;exact h
 split
 .rename_i hw;simp only[hw,if_true]at i;rcases i with i|⟨_,i⟩
  .refine Oper.wp_mono (K:=wpList P ops (toE P ops Q w drest) []) (λD w' C=>C) ?_;unfold Oper.wp at i ⊢;grind [Ux,toE]
  exact absurd i j
 rename_i hw;simp only[hw]at i;exact i.2
theorem Qnf(hT:TOk P tt)(ht:tk tt t=some k)(hk:k.desc=.bool){a:Act}(ha:Fr n al a)(hx:ev al x=some (.bool p))(hy:ev al y=some (.bool q))(dst:Option Nat)(w:World):
  (execOp a.eval ⟨dst,.binOp .eql t x y t2,ty,pos,aft,none⟩).run P w=.ok (.value (.bool (p == q))) w:=by
 have i:=Yc hT ht hk rfl;have h:∀ d:Nat,(Op.equalIn (d+1) t (.bool p) (.bool q)).run P w=.ok (p == q) w:=λd=>by simp[Op.equalIn,run_underlying i]
 simp[execOp,ha.ev hx,ha.ev hy,eqGuard,binOp,Op.equal,Op.maxDepth,h 9999]
theorem eqb[h:Tab P tt](kk:WL P n ops Q rest ((d,.bool (p == q))::al) w)(ht:tk tt t=some k:=by rfl)(hk:k.desc=.bool:=by rfl)(hx:ev al x=some (.bool p):=by rfl)(hy:ev al y=some (.bool q):=by rfl)(hd:Nat.blt d n=true:=by rfl):
  WL P n ops Q (⟨some d,.binOp .eql t x y t2,ty,pos,aft,none⟩::rest) al w:=wop hd (λa i=>Qnf h.ok ht hk i hx hy (some d) w) kk
theorem dbsl{t:Nat}{parts:Array (Nat×Operand)}{pw:Array (Nat×Value)}(hb:∀ w:World,(Instr.buildSlice t len pw).run P w=.ok (.slice (some ⟨w.heap.size,0,none⟩) len len) (w.alloc (.cells cs.toArray e)))(kk:∀ w1 b,Ext w w1->w.heap.size<=b->Blk w1 b e cs->WD P n ops Q drest ((d,.slice (some ⟨b,0,none⟩) len len)::al) w1)(hx:evs al (parts.toList.map (·.2))=some vs:=by rfl)(hp:((parts.toList.map (·.1)).zip vs).toArray=pw:=by rfl)(hd:Nat.blt d n=true:=by rfl):
  WD P n ops Q ((1,⟨some d,.buildSlice t len parts,ty,pos,aft,none⟩)::drest) al w :=
 Jqv (bsl hb (λw1 b i o j=>Jl (Jqt i (kk w1 b i o j))) hx hp hd)
end
end Go.Wk
namespace Go.Wk
open Go.RowKit
variable {L listed:Array Bool}{l:List Oper}{fuel fuel' i id:Nat}{o oi oj:Oper}{w w0:World}
section
variable {P:Program} {ops:Array Oper} {Q:Exit->Act->World->Prop}
def noT: Nat->Bool:=λ_=>false
theorem Qlv: Jjx ops noT=true:=by simp[Jjx,noT]
def Jjn(ops:Array Oper): List (Nat×Nat)->Array Bool->Option (Array Bool)
 | [],listed=>some listed
 | (0,i)::r,listed=>if(Region.ready .any ops listed).contains i && Region.free .any ops listed i && Nat.blt i ops.size then Jjn ops r (listed.setIfInBounds i true) else none
 | (1,i)::r,listed=>if(Region.ready .any ops listed == [i]) && Nat.blt i ops.size then Jjn ops r (listed.setIfInBounds i true) else none
 | _::_,_=>none
def toK(P:Program)(ops:Array Oper)(Q:Exit->Act->World->Prop)(fuel:Nat)(listed:Array Bool): Exit->Act->World->Prop
 | .normal,a,w=>Gy P ops Q noT fuel listed a w
 | _,_,_=>False
theorem Xdg{a:Act}{K:Act->World->Prop}(h:o.wp P a w K (QF (toK P ops Q fuel listed))): o.wp P a w K (QF Q):=by
 unfold Oper.wp at h ⊢;have i:¬ LetsOut (QF (toK P ops Q fuel listed)):=by rintro⟨a,w,h⟩;exact h
 grind [Ux,QF,toK]
theorem Jyv(hsel:Region.noSelect ops=true)(fuel:Nat)(listed':Array Bool): ∀(s:List (Nat×Nat)) (listed:Array Bool) (a:Act) (w:World),Jjn ops s listed=some listed'->Xk P ops (toK P ops Q fuel listed') (Qn ops.toList s) a w->Gy P ops Q noT (s.length+fuel) listed a w
 | [],listed,a,w,hB,h=>by
  simp only[Jjn,Option.some.injEq]at hB;subst hB;simp only[List.length_nil,Nat.zero_add];exact h
 | (0,i)::r,listed,a,w,hB,h=>by
  simp only[Jjn]at hB;split at hB
  .rename_i hc;simp only[Bool.and_eq_true]at hc;obtain⟨⟨hr,hf⟩,hi0⟩:=hc;have hi:i<ops.size:=by(have:i+1<=ops.size:=by simpa [Nat.blt] using hi0);(omega)
   have ho:ops[i]?=some ops[i]:=Array.getElem?_eq_getElem hi;have hn:nth ops.toList i=some ops[i]:=by rw[Xm];simp[hi]
   simp only[Qn,hn,Xk,wk1]at h;obtain⟨v,hy,h⟩:=h;rw[show((0,i)::r).length+fuel=(r.length+fuel)+1 by simp;omega];exact Jrf Qlv ho rfl (Region.noSelect_spec hsel) _ listed a w (Region.free_spec ho hf) (by simpa using hr) hy (Jyv hsel fuel listed' r _ _ _ hB h)
  cases hB
 | (1,i)::r,listed,a,w,hB,h=>by
  simp only[Jjn]at hB;split at hB
  .rename_i hc;simp only[Bool.and_eq_true,beq_iff_eq]at hc;obtain⟨hr,hi0⟩:=hc;have hi:i<ops.size:=by(have:i+1<=ops.size:=by simpa [Nat.blt] using hi0);(omega)
   have ho:ops[i]?=some ops[i]:=Array.getElem?_eq_getElem hi;have hn:nth ops.toList i=some ops[i]:=by rw[Xm];simp[hi]
   simp only[Qn,hn,Xk,wk1]at h;rw[show((1,i)::r).length+fuel=(r.length+fuel)+1 by simp;omega];refine .inr ⟨λh0=>(by rw[hr]at h0;cases h0),λj hj=>?_⟩;rw[hr]at hj;obtain rfl:j=i:=by simpa using hj
   unfold wpOp;simp only[ho];split
   .rename_i hw;simp only[hw,if_true]at h;exact .inl (Oper.wp_mono (λa' w' h'=>⟨h'.1,Jyv hsel fuel listed' r _ _ _ hB h'.2⟩) (Xdg h))
   rename_i hw;simp only[hw]at h;exact⟨Ext.refl w,Jyv hsel fuel listed' r _ _ _ hB h⟩
  cases hB
 | (k+2,i)::r,listed,a,w,hB,h=>by simp[Jjn]at hB
end
section
variable {P:Program} {n:Nat} {al al':AL} {w:World} {Q:Exit->Act->World->Prop} {ops:Array Oper}
def WG(P:Program)(n:Nat)(ops:Array Oper)(Q:Exit->Act->World->Prop)(fuel:Nat)(listed:Array Bool)(al:AL)(w:World): Prop:=∀ a,Fr n al a->Gy P ops Q noT fuel listed a w
theorem WG.sub{fuel:Nat}{listed:Array Bool}(hs:Sub al' al)(h:WG P n ops Q fuel listed al' w): WG P n ops Q fuel listed al w:=λa i=>h a (i.sub hs)
theorem drG{tt:TT}[ht:Tab P tt](hsel:Region.noSelect l.toArray=true)(h:WG P n l.toArray Q l.toArray.size (Array.replicate l.toArray.size false) al w.drew): WC P n (.region id l.toArray true) Q al w:=λa i=>
 wp_region_any ht.mixed (Jft (T:=noT) _ _ _ _ (h a i))
theorem gpre(s:List (Nat×Nat))(listed':Array Bool)(hsel:Region.noSelect l.toArray=true)(hB:Jjn l.toArray s listed=some listed')(hf:fuel=s.length+fuel')(h:WD P n l.toArray (toK P l.toArray Q fuel' listed') (Qn l s) al w): WG P n l.toArray Q fuel listed al w:=λa i=>by
 subst hf;refine Jyv hsel fuel' listed' s listed a w hB ?_;have:=h a i;simpa using this
theorem Jdf(h:WG P n ops Q fuel listed al w): QX n (toK P ops Q fuel listed) .normal al w:=h
theorem gend(hr:Region.ready .any ops listed=[])(h:QX n Q .normal al w): WG P n ops Q 0 listed al w:=λa i=>⟨hr,h a i⟩
def toJ(P:Program)(ops:Array Oper)(Q:Exit->Act->World->Prop)(w0:World)(fuel:Nat)(listed:Array Bool): Exit->Act->World->Prop
 | .normal,a,w=>Ext w0 w/\Gy P ops Q noT fuel listed a w
 | _,_,_=>False
theorem Qkb(hx:Ext w0 w)(h:WG P n ops Q fuel listed al w): QX n (toJ P ops Q w0 fuel listed) .normal al w:=λa i=>⟨hx,h a i⟩
theorem Qfp(ho:ops[i]?=some o)(h:WL P n ops (toJ P ops Q w fuel listed) [o] al w): ∀ a,Fr n al a->wpOp P ops (QF Q) i (λa' w'=>Ext w w'/\Gy P ops Q noT fuel listed a' w') a w:=λa C=>by
 have j:=h a C;unfold wpList at j;unfold wpOp;simp only[ho];have u:¬ LetsOut (toJ P ops Q w fuel listed):=by rintro⟨a,w,h⟩;exact h
 split
 .rename_i hw;simp only[hw,if_true]at j;rcases j with j|⟨_,j⟩
  .left
   refine Oper.wp_mono (K:=wpList P ops (toJ P ops Q w fuel listed) []) (λa' w' D=>D) ?_;unfold Oper.wp at j ⊢;grind [Ux,toJ]
  exact absurd j u
 rename_i hw;simp only[hw]at j;exact j
theorem gtwo(i j:Nat)(hr:Region.ready .any l.toArray listed=[i,j])(hf:fuel=fuel'+1)(hi:nth l i=some oi)(hj:nth l j=some oj)(h1:WL P n l.toArray (toJ P l.toArray Q w fuel' (listed.setIfInBounds i true)) [oi] al w)(h2:WL P n l.toArray (toJ P l.toArray Q w fuel' (listed.setIfInBounds j true)) [oj] al w): WG P n l.toArray Q fuel listed al w:=λa u=>by
 subst hf;have D:l.toArray[i]?=some oi:=by rw[<-hi,Xm];simp
 have C:l.toArray[j]?=some oj:=by rw[<-hj,Xm];simp
 refine .inr ⟨λh0=>(by rw[hr]at h0;cases h0),λk o=>?_⟩;grind [Qfp]
theorem gcut{α:Type}(fuel':Nat)(L':Array Bool)(fr:α->AL)(I:α->World->Prop)(h2:∀ x w,I x w->WG P n ops Q fuel' L' (fr x) w)(h1:(∀ x al w,I x w->Sub (fr x) al->WG P n ops Q fuel' L' al w)->WG P n ops Q fuel L al w): WG P n ops Q fuel L al w:=h1 λx al w hi hs=>(h2 x w hi).sub hs
def lst(m k:Nat): Array Bool:=((List.range m).map λi=>Nat.blt i k).toArray
end
end Go.Wk
namespace Go.Wk
open Go.RowKit
variable {L listed listed':Array Bool}{l:List Oper}{fuel fuel' i id:Nat}{o oi oj:Oper}{w w0:World}
section
variable {P:Program} {ops:Array Oper} {Q:Exit->Act->World->Prop} {T:Nat->Bool}
def Kd(ops:Array Oper)(T:Nat->Bool)(F:Nat): List (Nat×Nat)->Array Bool->Option (Array Bool)
 | [],listed=>some listed
 | (0,i)::r,listed=>if(Region.ready .any ops listed).contains i && Region.free .any ops listed i && Nat.blt i ops.size && !T i && (List.range ops.size).all (λt=>!T t || Uh ops F t i) then Kd ops T F r (listed.setIfInBounds i true) else none
 | (1,i)::r,listed=>if(Region.ready .any ops listed == [i]) && Nat.blt i ops.size then Kd ops T F r (listed.setIfInBounds i true) else none
 | (2,i)::r,listed=>if(Region.ready .any ops listed == [i]) && Nat.blt i ops.size && T i then Kd ops T F r (listed.setIfInBounds i true) else none
 | _::_,_=>none
def Jjv(P:Program)(ops:Array Oper)(Q:Exit->Act->World->Prop)(T:Nat->Bool)(fuel:Nat)(listed:Array Bool): Exit->Act->World->Prop
 | .normal,a,w=>Closed ops listed->Vn P ops Q T fuel listed a w
 | _,_,_=>False
theorem Qdq{a:Act}{K:Act->World->Prop}(h:o.wp P a w K (QF (Jjv P ops Q T fuel listed))): o.wp P a w K (QF Q):=by
 unfold Oper.wp at h ⊢;have i:¬ LetsOut (QF (Jjv P ops Q T fuel listed)):=by rintro⟨a,w,h⟩;exact h
 grind [Ux,QF,Jjv]
theorem Jxf(hsel:Region.noSelect ops=true)(F fuel:Nat)(listed':Array Bool): ∀(s:List (Nat×Nat)) (listed:Array Bool) (a:Act) (w:World),Closed ops listed->Kd ops T F s listed=some listed'->Xk P ops (Jjv P ops Q T fuel listed') (Qn ops.toList s) a w->Vn P ops Q T (s.length+fuel) listed a w
 | [],listed,a,w,hcl,hB,h=>by
  simp only[Kd,Option.some.injEq]at hB;subst hB;simp only[List.length_nil,Nat.zero_add];exact h hcl
 | (0,i)::r,listed,a,w,hcl,hB,h=>by
  simp only[Kd]at hB;split at hB
  .rename_i hc;simp only[Bool.and_eq_true]at hc;obtain⟨⟨⟨⟨hr,hf⟩,hi0⟩,hTi⟩,hre⟩:=hc;have hi:i<ops.size:=by(have:i+1<=ops.size:=by simpa [Nat.blt] using hi0);(omega)
   have ho:ops[i]?=some ops[i]:=Array.getElem?_eq_getElem hi;have hn:nth ops.toList i=some ops[i]:=by rw[Xm];simp[hi]
   have hr':i∈Region.ready .any ops listed:=by simpa using hr
   simp only[Qn,hn,Xk,wk1]at h;obtain⟨v,hy,h⟩:=h;rw[show((0,i)::r).length+fuel=(r.length+fuel)+1 by simp;omega];refine Jyw Ext Ext.refl Ext.trans ho (Region.noSelect_spec hsel) ?_ _ listed a w hcl (Region.free_spec ho hf) hr' hy (Jxf hsel F fuel listed' r _ _ _ (hcl.step hr') hB h);intro listed2 j hcl2 hri hrj w w' hx;cases hT:T j with
   | false=>exact hx hT
   | true=>
    obtain⟨_,oj,hoj,_⟩:=mem_ready.1 hrj;have hjl:j<ops.size:=by grind
    have h9:=List.all_eq_true.1 hre j (List.mem_range.2 hjl);rw[hT]at h9;have h1:=Jqc hcl2 F j i oj hoj (Jqb hoj hrj) (by simpa using h9);have h0:=(mem_ready.1 hri).1;grind
  cases hB
 | (1,i)::r,listed,a,w,hcl,hB,h=>by
  simp only[Kd]at hB;split at hB
  .rename_i hc;simp only[Bool.and_eq_true,beq_iff_eq]at hc;obtain⟨hr,hi0⟩:=hc;have hi:i<ops.size:=by(have:i+1<=ops.size:=by simpa [Nat.blt] using hi0);(omega)
   have ho:ops[i]?=some ops[i]:=Array.getElem?_eq_getElem hi;have hn:nth ops.toList i=some ops[i]:=by rw[Xm];simp[hi]
   have hcl':Closed ops (listed.setIfInBounds i true):=hcl.step (by grind);simp only[Qn,hn,Xk,wk1]at h;rw[show((1,i)::r).length+fuel=(r.length+fuel)+1 by simp;omega];refine⟨λh0=>(by rw[hr]at h0;cases h0),λj hj=>?_⟩;rw[hr]at hj;obtain rfl:j=i:=by simpa using hj
   unfold wpOp;simp only[ho];split
   .rename_i hw;simp only[hw,if_true]at h;exact .inl (Oper.wp_mono (λa' w' h'=>⟨λ_=>h'.1,Jxf hsel F fuel listed' r _ _ _ hcl' hB h'.2⟩) (Qdq h))
   rename_i hw;simp only[hw]at h;exact⟨λ_=>Ext.refl w,Jxf hsel F fuel listed' r _ _ _ hcl' hB h⟩
  cases hB
 | (2,i)::r,listed,a,w,hcl,hB,h=>by
  simp only[Kd]at hB;split at hB
  .rename_i hc;simp only[Bool.and_eq_true,beq_iff_eq]at hc;obtain⟨⟨hr,hi0⟩,hTi⟩:=hc;have hi:i<ops.size:=by(have:i+1<=ops.size:=by simpa [Nat.blt] using hi0);(omega)
   have ho:ops[i]?=some ops[i]:=Array.getElem?_eq_getElem hi;have hn:nth ops.toList i=some ops[i]:=by rw[Xm];simp[hi]
   have hcl':Closed ops (listed.setIfInBounds i true):=hcl.step (by grind);simp only[Qn,hn,Xk,wk1]at h;rw[show((2,i)::r).length+fuel=(r.length+fuel)+1 by simp;omega];refine⟨λh0=>(by rw[hr]at h0;cases h0),λj hj=>?_⟩;rw[hr]at hj;obtain rfl:j=i:=by simpa using hj
   unfold wpOp;simp only[ho];split
   .rename_i hw;simp only[hw,if_true]at h;exact .inl (Oper.wp_mono (λa' w' h'=>⟨λh0=>(by grind),Jxf hsel F fuel listed' r _ _ _ hcl' hB h'⟩) (Qdq h))
   rename_i hw;simp only[hw]at h;exact⟨λ_=>Ext.refl w,Jxf hsel F fuel listed' r _ _ _ hcl' hB h⟩
  cases hB
 | (k+3,i)::r,listed,a,w,hcl,hB,h=>by simp[Kd]at hB
end
section
variable {P:Program} {n:Nat} {al al':AL} {w:World} {Q:Exit->Act->World->Prop} {ops:Array Oper} {T:Nat->Bool}
def WH(P:Program)(n:Nat)(ops:Array Oper)(Q:Exit->Act->World->Prop)(T:Nat->Bool)(fuel:Nat)(listed:Array Bool)(al:AL)(w:World): Prop:=Closed ops listed->∀ a,Fr n al a->Vn P ops Q T fuel listed a w
theorem WH.sub{fuel:Nat}{listed:Array Bool}(hs:Sub al' al)(h:WH P n ops Q T fuel listed al' w): WH P n ops Q T fuel listed al w:=λi a j=>h i a (j.sub hs)
theorem Qyx(ops:Array Oper)(m:Nat): Closed ops (Array.replicate m false):=λk o _ i=>by
 exfalso
 rcases Nat.lt_or_ge k m with h|h
 .simp[h]at i
 repeat grind
theorem drH{tt:TT}[ht:Tab P tt](T:Nat->Bool)(h:WH P n l.toArray Q T l.toArray.size (Array.replicate l.toArray.size false) al w.drew): WC P n (.region id l.toArray true) Q al w:=λa i=>
 wp_region_any ht.mixed (Jfv (T:=T) _ _ _ _ (h (Qyx _ _) a i))
theorem Zr(F:Nat)(s:List (Nat×Nat))(listed':Array Bool)(hsel:Region.noSelect l.toArray=true)(hB:Kd l.toArray T F s listed=some listed')(hf:fuel=s.length+fuel')(h:WD P n l.toArray (Jjv P l.toArray Q T fuel' listed') (Qn l s) al w): WH P n l.toArray Q T fuel listed al w:=λi a j=>by
 subst hf;refine Jxf hsel F fuel' listed' s listed a w i hB ?_;have:=h a j;simpa using this
theorem Xa(h:WH P n ops Q T fuel listed al w): QX n (Jjv P ops Q T fuel listed) .normal al w:=λa j i=>h i a j
theorem Yx(hr:Region.ready .any ops listed=[])(h:QX n Q .normal al w): WH P n ops Q T 0 listed al w:=λ_ a i=>⟨hr,h a i⟩
def Jjw(P:Program)(ops:Array Oper)(Q:Exit->Act->World->Prop)(T:Nat->Bool)(w0:World)(fuel:Nat)(listed:Array Bool): Exit->Act->World->Prop
 | .normal,a,w=>Ext w0 w/\(Closed ops listed->Vn P ops Q T fuel listed a w)
 | _,_,_=>False
theorem Jcn(hx:Ext w0 w)(h:WH P n ops Q T fuel listed al w): QX n (Jjw P ops Q T w0 fuel listed) .normal al w:=λa j=>⟨hx,λi=>h i a j⟩
theorem Jpx(ho:ops[i]?=some o)(hc:Closed ops listed)(h:WL P n ops (Jjw P ops Q T w fuel listed) [o] al w): ∀ a,Fr n al a->wpOp P ops (QF Q) i (λa' w'=>(T i=false->Ext w w')/\Vn P ops Q T fuel listed a' w') a w:=λa D=>by
 have j:=h a D;unfold wpList at j;unfold wpOp;simp only[ho];have u:¬ LetsOut (Jjw P ops Q T w fuel listed):=by rintro⟨a,w,h⟩;exact h
 split
 .rename_i hw;simp only[hw,if_true]at j;rcases j with j|⟨_,j⟩
  .left
   refine Oper.wp_mono (K:=wpList P ops (Jjw P ops Q T w fuel listed) []) (λa' w' C=>⟨λ_=>C.1,C.2 hc⟩) ?_;unfold Oper.wp at j ⊢;grind [Ux,Jjw]
  exact absurd j u
 rename_i hw;simp only[hw]at j;exact⟨λ_=>j.1,j.2 hc⟩
theorem htwo(i j:Nat)(hr:Region.ready .any l.toArray listed=[i,j])(hf:fuel=fuel'+1)(hi:nth l i=some oi)(hj:nth l j=some oj)(h1:WL P n l.toArray (Jjw P l.toArray Q T w fuel' (listed.setIfInBounds i true)) [oi] al w)(h2:WL P n l.toArray (Jjw P l.toArray Q T w fuel' (listed.setIfInBounds j true)) [oj] al w): WH P n l.toArray Q T fuel listed al w:=λC a D=>by
 subst hf;have J:l.toArray[i]?=some oi:=by rw[<-hi,Xm];simp
 have G:l.toArray[j]?=some oj:=by rw[<-hj,Xm];simp
 refine⟨λh0=>(by rw[hr]at h0;cases h0),λk u=>?_⟩;have o:=u;rw[hr]at u;simp only[List.mem_cons,List.not_mem_nil,or_false]at u;rcases u with rfl|rfl
 .exact Jpx J (C.step o) h1 a D
 exact Jpx G (C.step o) h2 a D
theorem hlist(e:listed=listed')(h:WH P n ops Q T fuel listed' al w): WH P n ops Q T fuel listed al w:=by subst e;exact h
theorem Jvl{α:Type}(fuel':Nat)(L':Array Bool)(fr:α->AL)(I:α->World->Prop)(h2:∀ x w,I x w->WH P n ops Q T fuel' L' (fr x) w)(h1:(∀ x al w,I x w->Sub (fr x) al->WH P n ops Q T fuel' L' al w)->WH P n ops Q T fuel L al w): WH P n ops Q T fuel L al w:=h1 λx al w hi hs=>(h2 x w hi).sub hs
end
end Go.Wk
namespace Go.Wk
open Go.RowKit
variable {a e:Act}{b z:Int}{k1 kd:IntKind}{i x y:Operand}{k:TK}{t t2 yt:TypeId}
section
variable {P:Program} {n:Nat} {al:AL} {w:World} {Q:Exit->Act->World->Prop} {ops:Array Oper} {rest:List Oper} {drest:List (Nat×Oper)}
variable {d ty:Nat} {op:Op} {pos:String} {aft:Array Edge} {tt:TT}
theorem Qlp(hT:TOk P tt){t m e sz:Nat}(ht:tk tt t=some k)(hk:k.desc=.array m e)(hz:k.esz=sz): P.underlying t=some (.array m e)/\Vy P e=some sz:=by
 have:=hT.at ht;grind [Ue]
theorem Jgx(hT:TOk P tt){t m e:Nat}{p:Addr}(j:Nat)(ht:tk tt t=some k)(hk:k.desc=.array m e)(hlt:j<m)(ha:Fr n al a)(hx:ev al x=some (.pointer (some p)))(hi:ev al i=some (.int kd z))(hj:z=(j:Int))(dst:Option Nat)(w:World):
  (execOp a.eval ⟨dst,.indexAddr t x i,ty,pos,aft,none⟩).run P w=.ok (.value (.pointer (some (p.add (j*k.esz))))) w:=by
 obtain⟨o,hs⟩:=Qlp hT ht hk rfl;subst hj;simp[execOp,ha.ev hx,ha.ev hi,Instr.indexAt,asIntOf,run_underlying o,Yd w hs,Instr.sureAddr];intro h;omega
theorem Qnb{a:Int}(h0:b≠0)(he:Fr n al e)(hx:ev al x=some (.int k1 a))(hy:ev al y=some (.int k1 b))(dst:Option Nat)(w:World):
  (execOp e.eval ⟨dst,.binOp .rem t x y yt,ty,pos,aft,none⟩).run P w=.ok (.value (.int k1 (a.tmod b))) w:=by
 simp[execOp,he.ev hx,he.ev hy,eqGuard,binOp,Op.intDiv,h0]
theorem rem{a:Int}(h0:b≠0)(kk:WL P n ops Q rest ((d,.int k1 (a.tmod b))::al) w)(hx:ev al x=some (.int k1 a):=by rfl)(hy:ev al y=some (.int k1 b):=by rfl)(hd:Nat.blt d n=true:=by rfl):
  WL P n ops Q (⟨some d,.binOp .rem t x y yt,ty,pos,aft,none⟩::rest) al w:=by grind [wop,Qnb]
theorem Qnc(hT:TOk P tt){p q:Bool}(ht:tk tt t=some k)(hk:k.desc=.bool)(ha:Fr n al a)(hx:ev al x=some (.bool p))(hy:ev al y=some (.bool q))(dst:Option Nat)(w:World):
  (execOp a.eval ⟨dst,.binOp .neq t x y t2,ty,pos,aft,none⟩).run P w=.ok (.value (.bool (!(p == q)))) w:=by
 have i:=Yc hT ht hk rfl;have h:∀ d:Nat,(Op.equalIn (d+1) t (.bool p) (.bool q)).run P w=.ok (p == q) w:=λd=>by simp[Op.equalIn,run_underlying i]
 simp[execOp,ha.ev hx,ha.ev hy,eqGuard,binOp,Op.equal,Op.maxDepth,h 9999]
end
end Go.Wk
namespace Go.Proofs.YtgobkbeokaaplaaGreatDoor
namespace Pl
variable {a b l:List UInt32}{i m n:Nat}{c:UInt32}
def val: List UInt32->Nat
 | []=>0
 | c::l=>c.toNat+4294967296*val l
def Jq(n:Nat): List UInt32:=if h:n=0 then[] else UInt32.ofNat n::Jq (n / 4294967296)
termination_by n
decreasing_by exact Nat.div_lt_self om (by decide)
theorem limbs_0: Jq 0=[]:=by rw[Jq];rfl
theorem Jcj(h:n≠0): Jq n=UInt32.ofNat n::Jq (n / 4294967296):=by rw[Jq,dif_neg h]
theorem Xqh(h:c.toNat+4294967296*m≠0): Jq (c.toNat+4294967296*m)=c::Jq m:=by
 have i:=c.toNat_lt;grind [Jcj,UInt32.toNat_inj.1,UInt32.toNat_ofNat']
def Zq: List UInt32->List UInt32
 | []=>[]
 | c::l=>if Zq l=[]/\c=0 then[] else c::Zq l
theorem val_0(h:Zq l=[]): val l=0:=by
 induction l with
 | nil=>rfl
 | cons c l ih=>
  simp only[Zq]at h;split at h
  .rename_i h2;rw[val,ih h2.1,h2.2];rfl
  cases h
theorem Im: ∀ l:List UInt32,Zq l=Jq (val l)
 | []=>by rw[val,limbs_0];rfl
 | c::l=>by
  have ih:=Im l;simp only[Zq,val];split
  .rename_i h;rw[val_0 h.1,h.2];exact limbs_0.symm
  rename_i h;rw[Xqh,ih];intro h0;apply h
  have hv:val l=0:=om
  refine⟨?_,?_⟩
  .rw[ih,hv,limbs_0]
  apply UInt32.toNat_inj.1
  grind
theorem Uq(n:Nat): val (Jq n)=n:=by
 induction n using Nat.strongRecOn with
 | ind n ih=>
  grind [limbs_0,Jcj,val,Nat.div_lt_self,UInt32.toNat_ofNat']
theorem Qhw(n:Nat): Zq (Jq n)=Jq n:=by rw[Im,Uq]
theorem Jsg(l:List UInt32): Zq (l++[0])=Zq l:=by
 induction l with
 | nil=>rfl
 | cons c l ih=>simp only[List.cons_append,Zq,ih]
theorem Qhv(l:List UInt32)(h:c≠0): Zq (l++[c])=l++[c]:=by
 induction l with
 | nil=>simp[Zq,h]
 | cons d l ih=>simp only[List.cons_append,Zq,ih];simp
theorem Jjt(a b:List UInt32): val (a++b)=val a+4294967296^a.length*val b:=by
 induction a with
 | nil=>simp[val]
 | cons c a ih=>rw[List.cons_append,val,val,ih,List.length_cons,Nat.pow_succ,Nat.mul_add,<-Nat.mul_assoc,Nat.mul_comm (4294967296^a.length) 4294967296];omega
theorem Jfw(a:List UInt32): val a<4294967296^a.length:=by
 induction a with
 | nil=>simp[val]
 | cons c a ih=>
  have i:c.toNat<4294967296:=c.toNat_lt;grind [val,List.length_cons,Nat.pow_succ,Nat.mul_le_mul_left,Nat.mul_comm]
theorem Qgs(l:List UInt32)(h:c≠0): 4294967296^l.length<=val (l++[c]):=by
 have i:0<c.toNat:=by
  rcases Nat.eq_zero_or_pos c.toNat with h0|h0
  .exact absurd (UInt32.toNat_inj.1 h0) h
  exact h0
 rw[Jjt,val];have:4294967296^l.length*1<=4294967296^l.length*(c.toNat+4294967296*val []):=Nat.mul_le_mul_left _ om;omega
theorem Xqg(h:n≠0): ∃ l c,Jq n=l++[c]/\c≠0:=by
 rcases List.eq_nil_or_concat (Jq n) with h0|⟨l,c,h0⟩
 .have:=Uq n;rw[h0]at this;exact absurd this.symm h
 refine⟨l,c,by rw[h0];simp,λo=>?_⟩;subst o;have i:=Qhw n;rw[h0,List.concat_eq_append,Jsg]at i;have j:=congrArg List.length i;have u:(Zq l).length<=l.length:=by
  clear i j h0;induction l with
  | nil=>simp[Zq]
  | cons c l ih=>simp only[Zq];split<;>simp;exact ih
 simp at j;omega
theorem Qzk(h:n≠0): 4294967296^((Jq n).length-1)<=n:=by
 obtain⟨l,c,j,i⟩:=Xqg h;grind [Qgs,Uq]
theorem Xqf(n:Nat): n<4294967296^(Jq n).length:=by grind [Jfw,Jq,Uq]
theorem Qzc(h:(Jq n).length<(Jq m).length): n<m:=by
 have i:m≠0:=by grind [limbs_0]
 have u:=Qzk i;have o:=Xqf n;have j:4294967296^(Jq n).length<=4294967296^((Jq m).length-1):=Nat.pow_le_pow_right (by decide) om;omega
def Yn(n m:Nat): Int:=if n<m then -1 else if m<n then 1 else 0
theorem Qgr(ha:i<a.length)(hab:a.length=b.length)(ht:a.drop (i+1)=b.drop (i+1))(hl:(a.getD i 0).toNat<(b.getD i 0).toNat): val a<val b:=by
 have G:i<b.length:=om
 have D:a=a.take i++(a.getD i 0::a.drop (i+1)):=by grind [List.getD,List.getElem?_eq_getElem,List.drop_eq_getElem_cons,List.take_append_drop]
 have C:b=b.take i++(b.getD i 0::b.drop (i+1)):=by grind [List.getD,List.getElem?_eq_getElem,List.drop_eq_getElem_cons,List.take_append_drop]
 rw[D,C,Jjt,Jjt,val,val,ht];have u:(a.take i).length=i:=by grind
 have o:(b.take i).length=i:=by grind
 have j:=Jfw (a.take i);rw[u]at j ⊢;rw[o];have:4294967296^i*((a.getD i 0).toNat+1+4294967296*val (b.drop (i+1)))<=4294967296^i*((b.getD i 0).toNat+4294967296*val (b.drop (i+1))):=Nat.mul_le_mul_left _ om;grind
end Pl
open Go.RowKit Go.Wk
def tt: TT:=[(3,{ desc:=.int .i64 }),
 (2,{ desc:=.int .i64 }),
 (5,{ desc:=.int .u8 }),
 (94,{ desc:=.int .u16 }),
 (64,{ desc:=.int .u32 }),
 (80,{ desc:=.int .u64 }),
 (84,{ desc:=.int .u64 }),
 (4,{ desc:=.bool }),
 (9,{ desc:=.string }),
 (38,{ desc:=.int .i64 }),
 (302,{ desc:=.int .i64 }),
 (325,{ desc:=.int .u64 }),
 (45,{ desc:=.slice 64,esz:=1 }),
 (25,{ desc:=.slice 4,esz:=1 }),
 (26,{ desc:=.slice 3,esz:=1 }),
 (105,{ desc:=.slice 5,esz:=1 }),
 (44,{ desc:=.slice 64,esz:=1 }),
 (59,{ desc:=.slice 147,esz:=3 }),
 (58,{ desc:=.slice 147,esz:=3 }),
 (95,{ desc:=.slice 59,esz:=1 }),
 (27,{ desc:=.slice 26,esz:=1 }),
 (28,{ desc:=.slice 95,esz:=1 }),
 (51,{ desc:=.slice 208,esz:=3 }),
 (31,{ desc:=.slice 134,esz:=3 }),
 (72,{ desc:=.slice 78,esz:=3 }),
 (52,{ desc:=.slice 72,esz:=1 }),
 (53,{ desc:=.slice 228,esz:=1 }),
 (156,{ desc:=.slice 213,esz:=1 }),
 (157,{ desc:=.slice 221,esz:=1 }),
 (214,{ desc:=.slice 271,esz:=2 }),
 (314,{ desc:=.slice 320,esz:=1 }),
 (311,{ desc:=.slice 314,esz:=1 }),
 (315,{ desc:=.slice 334,esz:=2 }),
 (349,{ desc:=.slice 45,esz:=1 }),
 (147,{ desc:=.invalid,size:=3,offs:=[0,1,2] }),
 (130,{ desc:=.invalid,size:=2,offs:=[0,1] }),
 (134,{ desc:=.invalid,size:=3,offs:=[0,1] }),
 (33,{ desc:=.invalid,size:=5,offs:=[0,1,2,3,4] }),
 (55,{ desc:=.invalid,size:=5,offs:=[0,1,2,3,4] }),
 (30,{ desc:=.invalid,size:=6,offs:=[0,1,2,3,4,5] }),
 (116,{ desc:=.invalid,size:=5,offs:=[0,1,2,3,4] }),
 (208,{ desc:=.invalid,size:=3,offs:=[0,1,2] }),
 (151,{ desc:=.invalid,size:=2,offs:=[0,1] }),
 (76,{ desc:=.invalid,size:=2,offs:=[0,1] }),
 (230,{ desc:=.invalid,size:=4,offs:=[0,3] }),
 (232,{ desc:=.invalid,size:=9,offs:=[0,4,5,6,7,8] }),
 (78,{ desc:=.invalid,size:=3,offs:=[0,1] }),
 (271,{ desc:=.invalid,size:=2,offs:=[0,1] }),
 (159,{ desc:=.invalid,size:=10,offs:=[0,5,6,7,8,9] }),
 (241,{ desc:=.invalid,size:=9,offs:=[0,5,6,7,8] }),
 (313,{ desc:=.invalid,size:=4,offs:=[0,1,2,3] }),
 (334,{ desc:=.invalid,size:=2,offs:=[0,1] }),
 (317,{ desc:=.invalid,size:=1,offs:=[0] }),
 (337,{ desc:=.invalid,size:=2,offs:=[0,1] }),
 (340,{ desc:=.invalid,size:=69,offs:=[0,1,2,4,68] }),
 (234,{ desc:=.pointer 241 }),
 (74,{ desc:=.pointer 232 }),
 (212,{ desc:=.pointer 159 }),
 (224,{ desc:=.pointer 78 }),
 (310,{ desc:=.pointer 313 }),
 (320,{ desc:=.pointer 340 }),
 (329,{ desc:=.pointer 3 }),
 (350,{ desc:=.pointer 325 }),
 (204,{ desc:=.array 32 3,size:=32,esz:=1 }),
 (205,{ desc:=.array 32 64,size:=32,esz:=1 }),
 (338,{ desc:=.array 32 337,size:=64,esz:=2 }),
 (345,{ desc:=.array 24 5,size:=24,esz:=1 }),
 (254,{ desc:=.func #[59] #[4] false }),
 (228,{ desc:=.map 9 3 }),
 (213,{ desc:=.map 9 4 }),
 (221,{ desc:=.map 9 45 }),
 (239,{ desc:=.map 3 76 }),
 (276,{ desc:=.func #[74] #[3] false })]
theorem Il: TOk Tryz.prog tt:=⟨⟨kr,kr⟩,
 ⟨kr,kr⟩,
 ⟨kr,kr⟩,
 ⟨kr,kr⟩,
 ⟨kr,kr⟩,
 ⟨kr,kr⟩,
 ⟨kr,kr⟩,
 ⟨kr,kr⟩,
 ⟨kr,kr⟩,
 ⟨kr,kr⟩,
 ⟨kr,kr⟩,
 ⟨kr,kr⟩,
 ⟨kr,kr,kr⟩,
 ⟨kr,kr,kr⟩,
 ⟨kr,kr,kr⟩,
 ⟨kr,kr,kr⟩,
 ⟨kr,kr,kr⟩,
 ⟨kr,kr,kr⟩,
 ⟨kr,kr,kr⟩,
 ⟨kr,kr,kr⟩,
 ⟨kr,kr,kr⟩,
 ⟨kr,kr,kr⟩,
 ⟨kr,kr,kr⟩,
 ⟨kr,kr,kr⟩,
 ⟨kr,kr,kr⟩,
 ⟨kr,kr,kr⟩,
 ⟨kr,kr,kr⟩,
 ⟨kr,kr,kr⟩,
 ⟨kr,kr,kr⟩,
 ⟨kr,kr,kr⟩,
 ⟨kr,kr,kr⟩,
 ⟨kr,kr,kr⟩,
 ⟨kr,kr,kr⟩,
 ⟨kr,kr,kr⟩,
 ⟨_,Tryz.underlying147,kr,kr⟩,
 ⟨_,Tryz.underlying130,kr,kr⟩,
 ⟨_,Tryz.underlying134,kr,kr⟩,
 ⟨_,Tryz.underlying33,kr,kr⟩,
 ⟨_,Tryz.underlying55,kr,kr⟩,
 ⟨_,Tryz.underlying30,kr,kr⟩,
 ⟨_,Tryz.underlying116,kr,kr⟩,
 ⟨_,Tryz.underlying208,kr,kr⟩,
 ⟨_,Tryz.underlying151,kr,kr⟩,
 ⟨_,Tryz.underlying76,kr,kr⟩,
 ⟨_,Tryz.underlying230,kr,kr⟩,
 ⟨_,Tryz.underlying232,kr,kr⟩,
 ⟨_,Tryz.underlying78,kr,kr⟩,
 ⟨_,Tryz.underlying271,kr,kr⟩,
 ⟨_,Tryz.underlying159,kr,kr⟩,
 ⟨_,Tryz.underlying241,kr,kr⟩,
 ⟨_,Tryz.underlying313,kr,kr⟩,
 ⟨_,Tryz.underlying334,kr,kr⟩,
 ⟨_,Tryz.underlying317,kr,kr⟩,
 ⟨_,Tryz.underlying337,kr,kr⟩,
 ⟨_,Tryz.underlying340,kr,kr⟩,
 ⟨kr,kr⟩,
 ⟨kr,kr⟩,
 ⟨kr,kr⟩,
 ⟨kr,kr⟩,
 ⟨kr,kr⟩,
 ⟨kr,kr⟩,
 ⟨kr,kr⟩,
 ⟨kr,kr⟩,
 ⟨kr,kr,kr⟩,
 ⟨kr,kr,kr⟩,
 ⟨kr,kr,kr⟩,
 ⟨kr,kr,kr⟩,
 ⟨kr,kr⟩,
 ⟨kr,kr⟩,
 ⟨kr,kr⟩,
 ⟨kr,kr⟩,
 ⟨kr,kr⟩,
 ⟨kr,kr⟩,trivial⟩
theorem mixed: Tryz.prog.follows .mixedOrders=true:=kr
instance:Tab Tryz.prog tt:=⟨Il,mixed⟩
theorem EN: ElT Tryz.prog 45 64 1 4 (.int .u32 0):=⟨Tryz.underlying45,info_parts kr,rfl,by decide⟩
theorem EV: ElT Tryz.prog 59 147 3 32 (.agg #[.int .i64 0,.int .i64 0,.string ⟨#[]⟩]):=⟨Tryz.underlying59,info_parts kr,rfl,by decide⟩
theorem ER: ElT Tryz.prog 95 59 1 24 (.slice none 0 0):=⟨Tryz.underlying95,info_parts kr,rfl,by decide⟩
theorem bsN(x y:Int)(w:World): (Instr.buildSlice 45 2 #[(0,.int .u32 x),(1,.int .u32 y)]).run Tryz.prog w=.ok (.slice (some ⟨w.heap.size,0,none⟩) 2 2) (w.alloc (.cells #[.int .u32 x,.int .u32 y] 64)):=kr
open Go.RowKit Pl Go.Wk _root_.Go.Proofs.Tryz
attribute [local irreducible] WC WL QX WD WDB
variable {l:List UInt32}{c k m n:Nat}{A:Option Addr}{a b:UInt32}{u v:Value}{w:World}
def Nc(l:List UInt32): List Value:=l.map λc=>.int .u32 (c.toNat:Int)
theorem Qds(l:List UInt32): (Nc l).length=l.length:=by simp[Nc]
theorem Va(h:k<l.length): (Nc l)[k]?=some (.int .u32 ((l.getD k 0).toNat:Int)):=by simp[Nc,List.getD,List.getElem?_eq_getElem h]
theorem Xdh(l:List UInt32)(k:Nat): (Nc l).take k=Nc (l.take k):=by simp[Nc]
theorem Qdr(l:List UInt32): ∀ u∈Nc l,u.oneCell'=true:=by
 intro u i;simp[Nc]at i;obtain⟨c,_,rfl⟩:=i;rfl
def NatV(w:World)(v:Value)(n:Nat): Prop:=∃ A c,v=.slice A (Jq n).length c/\(Jq n).length<=c/\(Jq n).length<=4611686018427387904/\Rd w 1 A (Jq n).length (Nc (Jq n))
theorem NatV.ext{w w':World}{v:Value}{n:Nat}(h:NatV w v n)(hx:Ext w w'): NatV w' v n:=by
 obtain⟨A,c,u,o,j,i⟩:=h;exact⟨A,c,u,o,j,i.ext hx⟩
theorem NatV.nil(w:World): NatV w (.slice none 0 0) 0:=⟨none,0,by rw[limbs_0];rfl,by rw[limbs_0];simp,by rw[limbs_0];simp,by rw[limbs_0];exact Rd.nil⟩
theorem Jfx: ∀ l:List UInt32,Zq l=l.take (Zq l).length
 | []=>rfl
 | c::l=>by
  simp only[Zq];split
  .rfl
  rw[List.length_cons,List.take_succ_cons,<-Jfx l]
theorem Jsh(l:List UInt32): (Zq l).length<=l.length:=by grind [List.length,Jfx,List.length_take]
theorem Jbc(hr:Rd w 1 A l.length (Nc l))(hm:l.length<=4611686018427387904): NatV w (.slice A (Jq (val l)).length (Jq (val l)).length) (val l):=by
 have h:=hr.take (m:=(Zq l).length) (Jsh l);rw[Nat.mul_one,Xdh,<-Jfx]at h;have:=Jsh l;rw[<-Im];exact⟨A,(Zq l).length,by rw[<-Im],by rw[<-Im];exact nR _,by rw[<-Im];omega,by grind [Im]⟩
theorem Jks(hr:Rd w 1 A l.length (Nc l))(hc:l.length<=c)(hm:l.length<=4611686018427387904):
  Ret prog 83 [.slice A l.length c] w λv w'=>v=.slice A (Jq (val l)).length (Jq (val l)).length/\w'=w:=by
 refine enE func83 ntmps83 ?_;refine ρ ?_;have u:∀ k,k<=l.length->Zq (l.take k)=Zq l->Zq (l.take k)=l.take k->k=(Jq (val l)).length:=λk o Z O=>by grind [Im,List.length_take]
 refine Qs (λk=>[(0,.slice A l.length c),(3,.int .i64 ((k:Nat):Int))]) (λk w'=>w'=w/\k<=l.length/\Zq (l.take k)=Zq l) (λk=>k) l.length sB ⟨rfl,Nat.le_refl _,by rw[List.take_length]⟩ ?_;rintro k w' ⟨rfl,o,hn⟩;have done:∀ k,k=(Jq (val l)).length->k<=l.length->(Value.slice A k k)=.slice A (Jq (val l)).length (Jq (val l)).length:=λk h _=>by rw[h]
 refine ρ ?_;refine ki 8 (λh=>?_) (λh=>?_)
 .have J:0<k:=by have:=oT h;omega
  have j:k-1<l.length:=om
  have C:l.take k=l.take (k-1)++[l.getD (k-1) 0]:=by grind [List.take_succ_eq_append_getElem,List.getD,List.getElem?_eq_getElem]
  refine ixR (k-1) hr j ?_;refine ldR (hr.cell (Va j)) ?_;refine ciR (λh0=>?_) (λh0=>?_)
  .have G:l.getD (k-1) 0=0:=by
    have:=Zv h0;apply UInt32.toNat_inj.1
    grind
   refine ρ ?_;refine Qm (k-1) sO ⟨rfl,om,?_⟩ om;rw[<-hn,C,G,Jsg]
  have G:l.getD (k-1) 0≠0:=by
   have:=Zz h0;intro e;rw[e]at this;exact this rfl
  have i:=u k o hn (by grind [Qhv]);refine ρ ?_;refine Jyq Il 0 k k A k k rfl rfl rfl rfl rfl ⟨_,_,rfl,rfl⟩ ⟨_,_,rfl,rfl⟩ (.inr (by simp)) (Nat.zero_le _) (nR _) om (cut0 A _ _) rfl rfl rfl ?_;refine ρ ?_;exact Jj ⟨done k i o,rfl⟩
 have D:k=0:=by have:=oF h;omega
 subst D;have i:=u 0 o hn rfl;refine ρ ?_;refine Jyq Il 0 0 0 A 0 0 rfl rfl rfl rfl rfl ⟨_,_,rfl,rfl⟩ ⟨_,_,rfl,rfl⟩ (.inr (by simp)) (Nat.zero_le _) (nR _) om (cut0 A _ _) rfl rfl rfl ?_;refine ρ ?_;exact Jj ⟨done 0 i o,rfl⟩
theorem Kl(h:NatV w v n): Ret prog 83 [v] w λv' w'=>(∃ A,v'=.slice A (Jq n).length (Jq n).length/\Rd w 1 A (Jq n).length (Nc (Jq n)))/\w'=w:=by
 obtain⟨A,c,rfl,o,j,i⟩:=h;refine(Jks i o j).mono ?_;grind [Uq]
theorem Ih(n:Nat): IntKind.u32.wrap (n:Int)=((UInt32.ofNat n).toNat:Int):=by
 rw[UInt32.toNat_ofNat',IntKind.wrap_u32];omega
theorem u32hi(n:Nat): IntKind.u32.wrap ((n:Int).fdiv (2^min (32:Int).toNat IntKind.u64.bits))=((UInt32.ofNat (n / 4294967296)).toNat:Int):=by
 have e:(2:Int)^min (32:Int).toNat IntKind.u64.bits=((4294967296:Nat):Int):=by decide
 rw[e,Int.fdiv_eq_ediv_of_nonneg _ (Int.natCast_nonneg _),UInt32.toNat_ofNat',IntKind.wrap_u32];omega
theorem Qgq(n:Nat)(h:n<18446744073709551616): val [UInt32.ofNat n,UInt32.ofNat (n / 4294967296)]=n:=by grind [val,UInt32.toNat_ofNat']
def sgn(a b:Int): Int:=if a<b then -1 else if b<a then 1 else 0
theorem Qkp(x:Int)(w:World): Ret prog 137 [.int .i64 x] w λv w'=>v=.bool false/\w'=w:=by
 refine enE func137 ntmps137 ?_;refine ρ ?_;refine Jj ⟨?_,rfl⟩;simp
theorem Qvx(x y:Int)(w:World): Ret prog 87 [.int .i64 x,.int .i64 y] w λv w'=>v=.int .i64 (sgn x y)/\w'=w:=by
 refine enE func87 ntmps87 ?_;refine clR (Qkp x w) ?_;rintro v w' ⟨rfl,rfl⟩;refine clR (Qkp y w') ?_;rintro v i ⟨rfl,rfl⟩;refine ciR (λh=>?_) (λh=>?_)
 .refine ρ ?_;refine Jj ⟨?_,rfl⟩;grind [sgn]
 refine ciR (λj=>?_) (λj=>?_)
 .refine ρ ?_;refine Jj ⟨?_,rfl⟩;grind [sgn]
 refine ρ ?_;refine Jj ⟨?_,rfl⟩;grind [sgn]
theorem Qkn(x:Int)(w:World): Ret prog 138 [.int .u32 x] w λv w'=>v=.bool false/\w'=w:=by
 refine enE func138 ntmps138 ?_;refine ρ ?_;refine Jj ⟨?_,rfl⟩;simp
theorem Xwk(x y:Int)(w:World): Ret prog 88 [.int .u32 x,.int .u32 y] w λv w'=>v=.int .i64 (sgn x y)/\w'=w:=by
 refine enE func88 ntmps88 ?_;refine clR (Qkn x w) ?_;rintro v w' ⟨rfl,rfl⟩;refine clR (Qkn y w') ?_;rintro v i ⟨rfl,rfl⟩;refine ciR (λh=>?_) (λh=>?_)
 .refine ρ ?_;refine Jj ⟨?_,rfl⟩;grind [sgn]
 refine ciR (λj=>?_) (λj=>?_)
 .refine ρ ?_;refine Jj ⟨?_,rfl⟩;grind [sgn]
 refine ρ ?_;refine Jj ⟨?_,rfl⟩;grind [sgn]
theorem Qkq(x:Int)(w:World): Ret prog 228 [.int .i64 x] w λv w'=>v=.bool false/\w'=w:=by
 refine enE func228 ntmps228 ?_;refine ρ ?_;refine Jj ⟨?_,rfl⟩;simp
theorem Xwl(x y:Int)(w:World): Ret prog 207 [.int .i64 x,.int .i64 y] w λv w'=>v=.int .i64 (sgn x y)/\w'=w:=by
 refine enE func207 ntmps207 ?_;refine clR (Qkq x w) ?_;rintro v w' ⟨rfl,rfl⟩;refine clR (Qkq y w') ?_;rintro v i ⟨rfl,rfl⟩;refine ciR (λh=>?_) (λh=>?_)
 .refine ρ ?_;refine Jj ⟨?_,rfl⟩;grind [sgn]
 refine ciR (λj=>?_) (λj=>?_)
 .refine ρ ?_;refine Jj ⟨?_,rfl⟩;grind [sgn]
 refine ρ ?_;refine Jj ⟨?_,rfl⟩;grind [sgn]
theorem Jtr(n m:Nat): sgn (n:Int) (m:Int)=Yn n m:=by grind [sgn,Yn]
theorem Qhr(h:((a.toNat:Int) != (b.toNat:Int))=false): a=b:=by grind [UInt32.toNat_inj.1]
theorem Qhq(h:((a.toNat:Int) != (b.toNat:Int))=true): a.toNat≠b.toNat:=by grind
theorem Jwt(hv:NatV w v n)(hu:NatV w u m): Ret prog 30 [v,u] w λr w'=>r=.int .i64 (Yn n m)/\Ext w w':=by
 have a2:=hv;have a3:=hu;obtain⟨_,_,_,_,a8,_⟩:=a2;obtain⟨_,_,_,_,a9,_⟩:=a3;refine enE func30 ntmps30 ?_;refine clR (Kl hv) ?_;rintro v' w' ⟨⟨A,rfl,ha⟩,rfl⟩;refine clR (Kl hu) ?_;rintro u' a1 ⟨⟨B,rfl,hb⟩,rfl⟩;refine ciR (λh=>?_) (λh=>?_)
 .refine clR (Qvx _ _ _) ?_;rintro t Z ⟨rfl,rfl⟩;refine ρ ?_;refine Jj ⟨?_,Ext.refl _⟩;grind [Jtr,Jq,Yn,Nat.lt_or_gt_of_ne,Qzc]
 have a6:(Jq n).length=(Jq m).length:=by grind
 refine ρ ?_;refine Qs (λk=>[(0,.slice A (Jq n).length (Jq n).length),(1,.slice B (Jq m).length (Jq m).length),(5,.int .i64 ((k:Nat)-1:Int))]) (λk w'=>Ext a1 w'/\k<=(Jq n).length/\(Jq n).drop k=(Jq m).drop k) (λk=>k) (Jq n).length sB
  ⟨Ext.refl _,Nat.le_refl _,by grind⟩ ?_
 rintro k Z ⟨hx,hk,hd⟩;refine ciR (λh=>?_) (λh=>?_)
 .have a5:0<k:=by have:=oT h;omega
  have C:k-1<(Jq n).length:=om
  have o:k-1<(Jq m).length:=om
  have j:=hx.trans ((Ext.refl Z).drew);have O:=ha.ext j;have G:=hb.ext j;refine drR (scq 9 []) ?_;refine Jd (k-1) O C ?_;refine Jz (O.cell (Va C)) ?_;refine Jd (k-1) G o ?_;refine Jz (G.cell (Va o)) ?_;refine ρd ?_;refine ciR (λh=>?_) (λh=>?_)
  .have a7:=Qhq h;have i:=j.trans ((Ext.refl Z.drew).drew);have J:=ha.ext i;have D:=hb.ext i;refine drR (scq 10 [8]) ?_;refine Jd (k-1) J C ?_;refine Jz (J.cell (Va C)) ?_;refine Jd (k-1) D o ?_;refine Jz (D.cell (Va o)) ?_;refine Qq (Xwk _ _ _) ?_;rintro t w2 ⟨rfl,rfl⟩;refine⟨Ext.refl _,?_⟩;refine ρd ?_;refine ρ ?_;refine Jj ⟨?_,i⟩;grind [Jtr,Yn,Jq,Nat.lt_or_gt_of_ne,Qgr,Uq]
  have he:=Qhr h;refine ρ ?_;refine Qm (k-1) sO ⟨j,om,?_⟩ om;grind [List.drop_eq_getElem_cons,Jq,List.getD,List.getElem?_eq_getElem]
 have a4:k=0:=by have:=oF h;omega
 subst a4;have:n=m:=by grind [Uq,val]
 subst this;refine ρ ?_;refine Jj ⟨?_,hx⟩;simp[Yn]
end Go.Proofs.YtgobkbeokaaplaaGreatDoor
namespace Go.Wk
open Go.RowKit
variable {c e m t t2:Nat}
section
variable {P:Program} {n:Nat} {al:AL} {w:World} {Q:Exit->Act->World->Prop} {ops:Array Oper} {rest:List Oper}
variable {d ty:Nat} {op:Op} {pos:String} {aft:Array Edge} {tt:TT}
theorem Kr[h:Tab P tt]{x:Operand}{k:TK}{A:Option Addr}(kk:WL P n ops Q rest ((d,.bool A.isNone)::al) w)(ht:tk tt t=some k:=by rfl)(hk:k.desc=.slice e:=by rfl)(hx:ev al x=some (.slice A m c):=by rfl)(hd:Nat.blt d n=true:=by rfl): WL P n ops Q (⟨some d,.binOp .eql t x (.const (.slice none 0 0)) t2,ty,pos,aft,none⟩::rest) al w :=
 wop hd (λa j=>by
  have i:=(Km h.ok ht hk rfl).1;have o:a.eval (.const (.slice none 0 0))=.slice none 0 0:=rfl;simp[execOp,j.ev hx,o,eqGuard,binOp,run_equal_slice_nil w t e A m c i]) kk
end
end Go.Wk
namespace Go.Proofs.YtgobkbeokaaplaaGreatDoor
open Go.RowKit Pl Go.Wk _root_.Go.Proofs.Tryz
attribute [local irreducible] WC WL QX WD WDB
variable {cs:List Value}{c n:Nat}{A:Option Addr}{w:World}
theorem EB: ElT prog 25 4 1 1 (.bool false):=⟨underlying25,info_parts kr,rfl,by decide⟩
theorem EI: ElT prog 26 3 1 8 (.int .i64 0):=⟨underlying26,info_parts kr,rfl,by decide⟩
theorem Qbw(w:World): (Instr.buildSlice 25 0 #[]).run prog w=.ok (.slice (some ⟨w.heap.size,0,none⟩) 0 0) (w.alloc (.cells ([]:List Value).toArray 4)):=kr
theorem Xvr(hr:Rd w 1 A n cs)(h1:∀ u∈cs,u.oneCell'=true)(hb:n*1<=140737488355328):
  Ret prog 62 [.slice A n c] w λv w'=>(∃ A' c',v=.slice A' n c'/\n<=c'/\Rd w' 1 A' n cs)/\Ext w w':=by
 refine enE func62 ntmps62 ?_;refine ρ ?_;refine Kr ?_;refine ciR (λh=>?_) (λh=>?_)
 .have J:A=none:=by simpa using h
  subst J;have hn:n=0:=by
   rcases Nat.eq_zero_or_pos n with h0|h0
   .exact h0
   obtain⟨ad,O,_⟩:=hr.isome h0 om;cases O
  subst hn;refine ρ ?_;exact Jj ⟨⟨none,0,rfl,Nat.le_refl _,hr⟩,Ext.refl w⟩
 refine Qb Qbw ?_;intro w1 b j G D;refine ρ ?_;refine apo j EB (D.own (n:=0) G rfl (Nat.zero_le _)) (hr.ext j) h1 (by unfold maxLen;omega) om ?_;intro v2 w2 i C _ _;obtain⟨A2,Z,rfl,o,_⟩:=Jb i;refine ρ ?_;rw[Nat.zero_add]at i o ⊢;exact Jj ⟨⟨A2,Z,rfl,o,Rd.own i⟩,C⟩
theorem Jnj(hr:Rd w 1 A n cs)(h1:∀ u∈cs,u.oneCell'=true)(hb:n*1<=140737488355328):
  Ret prog 62 [.slice A n c] w λv w'=>(∃ A' c',v=.slice A' n c'/\n<=c'/\Rd w' 1 A' n cs/\∀ ad,A'=some ad->w.heap.size<=ad.block)/\Ext w w':=by
 refine enE func62 ntmps62 ?_;refine ρ ?_;refine Kr ?_;refine ciR (λh=>?_) (λh=>?_)
 .have O:A=none:=by simpa using h
  subst O;have hn:n=0:=by
   rcases Nat.eq_zero_or_pos n with h0|h0
   .exact h0
   obtain⟨ad,Z,_⟩:=hr.isome h0 om;cases Z
  subst hn;refine ρ ?_;exact Jj ⟨⟨none,0,rfl,Nat.le_refl _,hr,λad e=>by cases e⟩,Ext.refl w⟩
 refine Qb Qbw ?_;intro w1 b j G D;refine ρ ?_;refine apo j EB (D.own (n:=0) G rfl (Nat.zero_le _)) (hr.ext j) h1 (by unfold maxLen;omega) om ?_;intro v2 w2 i C _ _;obtain⟨A2,c2,rfl,o,J⟩:=Jb i;refine ρ ?_;rw[Nat.zero_add]at i o ⊢;exact Jj ⟨⟨A2,c2,rfl,o,Rd.own i,λad e=>by subst e;exact(J ad.block rfl).1⟩,C⟩
theorem Iy(w:World): (Instr.buildSlice 59 0 #[]).run prog w=.ok (.slice (some ⟨w.heap.size,0,none⟩) 0 0) (w.alloc (.cells ([]:List Value).toArray 147)):=kr
theorem Qbt(w:World): (Instr.buildSlice 45 0 #[]).run prog w=.ok (.slice (some ⟨w.heap.size,0,none⟩) 0 0) (w.alloc (.cells ([]:List Value).toArray 64)):=kr
theorem Qbb(hr:Rd w 1 A n cs)(h1:∀ u∈cs,u.oneCell'=true)(hb:n*4<=140737488355328):
  Ret prog 64 [.slice A n c] w λv w'=>(∃ A' c',v=.slice A' n c'/\n<=c'/\Rd w' 1 A' n cs)/\Ext w w':=by
 refine enE func64 ntmps64 ?_;refine ρ ?_;refine Kr ?_;refine ciR (λh=>?_) (λh=>?_)
 .have J:A=none:=by simpa using h
  subst J;have hn:n=0:=by
   rcases Nat.eq_zero_or_pos n with h0|h0
   .exact h0
   obtain⟨ad,O,_⟩:=hr.isome h0 om;cases O
  subst hn;refine ρ ?_;exact Jj ⟨⟨none,0,rfl,Nat.le_refl _,hr⟩,Ext.refl w⟩
 refine Qb Qbt ?_;intro w1 b j G D;refine ρ ?_;refine apo j EN (D.own (n:=0) G rfl (Nat.zero_le _)) (hr.ext j) h1 (by unfold maxLen;omega) om ?_;intro v2 w2 i C _ _;obtain⟨A2,Z,rfl,o,_⟩:=Jb i;refine ρ ?_;rw[Nat.zero_add]at i o ⊢;exact Jj ⟨⟨A2,Z,rfl,o,Rd.own i⟩,C⟩
open Go.RowKit Pl Go.Wk
open Go.RowKit Pl Go.Wk
variable {a b os:List UInt32}{c i m n s x y:Nat}{u v:Value}{w:World}
theorem Gq(z:Value)(n:Nat): (madeCells #[z] n).toList=List.replicate n z:=by
 unfold madeCells;apply List.ext_getElem
 repeat grind
theorem Jpg(n:Nat): List.replicate n (Value.int .u32 0)=Nc (List.replicate n 0):=by simp[Nc]
theorem Jyk(l:List UInt32)(i:Nat)(c:UInt32): (Nc l).set i (.int .u32 (c.toNat:Int))=Nc (l.set i c):=by simp[Nc,List.map_set]
theorem Xcv(hx:x<4294967296)(hc:c<=1): IntKind.u64.wrap ((c:Int)+IntKind.u64.wrap (x:Int))=((c+x:Nat):Int):=by
 simp only[IntKind.wrap_u64];omega
theorem Jgk(n:Nat): (n:Int).fdiv (2^min (32:Int).toNat IntKind.u64.bits)=((n / 4294967296:Nat):Int):=by
 have e:(2:Int)^min (32:Int).toNat IntKind.u64.bits=((4294967296:Nat):Int):=by decide
 grind
def AddInv(a b:List UInt32)(i c:Nat)(os:List UInt32): Prop:=os.length=i/\c<=1/\val os+4294967296^i*c=val (a.take i)+val (b.take i)
theorem Jkq: val (a.take (i+1))=val (a.take i)+4294967296^i*(a.getD i 0).toNat:=by
 rcases Nat.lt_or_ge i a.length with h|h
 .grind [List.take_succ_eq_append_getElem,List.getD,List.getElem?_eq_getElem,Jjt,List.length_take,Nat.min_eq_left,val]
 rw[List.take_of_length_le om,List.take_of_length_le h];have:a.getD i 0=0:=by grind
 rw[this];simp
theorem AddInv.step(h:AddInv a b i c os)(hs:s=c+(a.getD i 0).toNat+(b.getD i 0).toNat): AddInv a b (i+1) (s / 4294967296) (os++[UInt32.ofNat s]):=by
 obtain⟨j,D,C⟩:=h;have u:(a.getD i 0).toNat<4294967296:=(a.getD i 0).toNat_lt;have o:(b.getD i 0).toNat<4294967296:=(b.getD i 0).toNat_lt;refine⟨by simp[j],om,?_⟩;rw[Jjt,j,Jkq,Jkq];simp only[val,UInt32.toNat_ofNat'];have e:4294967296^(i+1)*(s / 4294967296)=4294967296^i*(4294967296*(s / 4294967296)):=by grind
 rw[e];have G:4294967296^i*(s % 2^32+4294967296*0)+4294967296^i*(4294967296*(s / 4294967296))=4294967296^i*s:=by
  rw[<-Nat.mul_add];congr 1;omega
 grind
theorem Jgm(os:List UInt32)(r:Nat)(c:UInt32): (os++List.replicate (r+1) 0).set os.length c=(os++[c])++List.replicate r 0:=by grind
theorem Xct(hs:s<9223372036854775808)(hy:y<4294967296): IntKind.u64.wrap ((s:Int)+IntKind.u64.wrap (y:Int))=((s+y:Nat):Int):=by
 simp only[IntKind.wrap_u64];omega
abbrev Vt(w:World)(base:Nat)(v:Value)(l:List UInt32): Prop:=w.ownsRow base 64 1 v l.length (Nc l)
def Fresh(w:World)(v:Value): Prop:=∀ ad n c,v=.slice (some ad) n c->w.heap.size<=ad.block
theorem NatV.grown{w w':World}{v:Value}{n:Nat}{g:Option Nat}(h:NatV w v n)(hg:w.grownBy w' g)(hf:∀ ad m c,v=.slice (some ad) m c->some ad.block≠g): NatV w' v n:=by
 obtain⟨A,c,rfl,o,j,i⟩:=h;exact⟨A,c,rfl,o,j,Rd.grown i hg (λad e=>Ne.symm (hf ad _ _ (by rw[e])))⟩
theorem Jqk(hv:NatV w v n)(hu:NatV w u m)(hln:(Jq n).length<=1000)(hlm:(Jq m).length<=1000): Ret Tryz.prog 115 [v,u] w λr w'=>NatV w' r (n+m)/\Fresh w r/\Ext w w':=by
 refine enE Tryz.func115 Tryz.ntmps115 ?_;refine clR (Kl hv) ?_;rintro v' w' ⟨⟨A,rfl,ha⟩,rfl⟩;refine clR (Kl hu) ?_;rintro u' a2 ⟨⟨B,rfl,hb⟩,rfl⟩;refine ρ ?_;refine Zc (λs:(Option Addr×Nat)×(Option Addr×Nat)=>[(0,.slice s.1.1 (Jq s.1.2).length (Jq s.1.2).length),(1,.slice s.2.1 (Jq s.2.2).length (Jq s.2.2).length)])
  (λs w'=>w'=a2/\(Jq s.2.2).length<=(Jq s.1.2).length/\s.1.2+s.2.2=n+m/\Rd a2 1 s.1.1 (Jq s.1.2).length (Nc (Jq s.1.2))/\Rd a2 1 s.2.1 (Jq s.2.2).length (Nc (Jq s.2.2))/\(Jq s.1.2).length<=1000) ?_ ?_
 .refine ci (λh=>?_) (λh=>?_)
  .refine ρ ?_;exact Jc ((B,m),(A,n)) sB ⟨rfl,by grind,Nat.add_comm _ _,hb,ha,hlm⟩
  refine ρ ?_;exact Jc ((A,n),(B,m)) sB ⟨rfl,by grind,rfl,ha,hb,hln⟩
 rintro⟨⟨A,x⟩,⟨B,y⟩⟩ w' ⟨rfl,ai,Z,ha,hb,hl⟩;simp only at ai Z ha hb hl;generalize hL:(Jq x).length=L at *
 refine ρ ?_;refine mkn EN (L+1) om (by unfold maxLen;omega) ?_;intro w1 O ac an hO;have a7:Vt w1 w'.heap.size (.slice O (L+1) (L+1)) ([]++List.replicate (L+1) 0):=by
  have e:(madeCells (Value.int .u32 0).cells ((L+1)*1)).toList=Nc (List.replicate (L+1) 0):=by rw[Nat.mul_one,<-Jpg];exact Gq _ _
  grind
 refine ρ ?_;refine Zj (fun (k c:Nat) (j:List UInt32)=>[(0,.slice A L L),(1,.slice B (Jq y).length (Jq y).length),(5,.slice O (L+1) (L+1)),(6,.int .u64 (c:Int)),(24,.int .i64 (L:Int)),(25,.int .i64 (k:Int))])
  (λk c j J=>Ext w' J/\k<=L/\AddInv (Jq x) (Jq y) k c j/\Vt J w'.heap.size (.slice O (L+1) (L+1)) (j++List.replicate (L+1-k) 0)) (λk _ _=>L-k) 0 0 [] sB
  ⟨ac,Nat.zero_le _,⟨rfl,om,rfl⟩,a7⟩ ?_
 rintro k c j J ⟨G,hk,hI,a4⟩;have ae:=hI.1;have am:=hI.2.1;have a9:=ha.ext G;have a8:=hb.ext G;refine ciR (λh=>?_) (λh=>?_)
 .have ah:k<L:=by have:=oT h;omega
  have ag:((Jq x).getD k 0).toNat<4294967296:=((Jq x).getD k 0).toNat_lt;have af:((Jq y).getD k 0).toNat<4294967296:=((Jq y).getD k 0).toNat_lt;have i:(j++List.replicate (L+1-k) (0:UInt32)).length=L+1:=by simp;omega
  have store:∀ s:Nat,J.cell? (adr O k)=(Nc (j++List.replicate (L+1-k) 0))[k]?/\J.frozen? (adr O k)=false /\
    Vt (J.setCell (adr O k) (.int .u32 ((UInt32.ofNat s).toNat:Int))) w'.heap.size (.slice O (L+1) (L+1)) ((j++[UInt32.ofNat s])++List.replicate (L+1-(k+1)) 0)/\Ext w' (J.setCell (adr O k) (.int .u32 ((UInt32.ofNat s).toNat:Int))):=λs=>by
   have C:=a4;rw[Vt,i]at C;obtain⟨s1,s2,D,s4,s5⟩:=Vc C (q:=k) om (.int .u32 ((UInt32.ofNat s).toNat:Int));refine⟨s1,s2,?_,G.setCell s4 _⟩;rw[Jyk,show L+1-k=(L-k)+1 by omega]at D;have e:=Jgm j (L-k) (UInt32.ofNat s);grind
  have o:(Nc (j++List.replicate (L+1-k) 0))[k]?=some (.int .u32 (((j++List.replicate (L+1-k) 0).getD k 0).toNat:Int)):=Va (by rw[i];omega);have a5:Rd J 1 O (L+1) (Nc (j++List.replicate (L+1-k) 0)):=by have h5:=a4;rw[Vt,i]at h5;exact Rd.own h5
  refine ixR k a9 ah ?_;refine ldR (a9.cell (Va (show k<(Jq x).length by omega))) ?_;refine ρ ?_;rw[Xcv ag am];refine ci (λh=>?_) (λh=>?_)
  .have a1:k<(Jq y).length:=by have:=oT h;omega
   refine ixR k a8 a1 ?_;refine ldR (a8.cell (Va a1)) ?_;refine ixR k a5 om ?_;obtain⟨s1,s2,D,s4⟩:=store (c+((Jq x).getD k 0).toNat+((Jq y).getD k 0).toNat);rw[Xct om af,Ih];refine sto (s1.trans o) s2 ?_;refine ρ ?_;refine Uf rfl rfl (by decide) rfl ?_;refine ρ ?_;refine Qe (k+1) ((c+((Jq x).getD k 0).toNat+((Jq y).getD k 0).toNat) / 4294967296) (j++[UInt32.ofNat (c+((Jq x).getD k 0).toNat+((Jq y).getD k 0).toNat)]) ?_ ⟨s4,om,hI.step rfl,D⟩ om;rw[Jgk];exact sB
  have ao:(Jq y).length<=k:=by have:=oF h;omega
  have aa:(Jq y).getD k 0=0:=by grind
  refine ixR k a5 om ?_;obtain⟨s1,s2,D,s4⟩:=store (c+((Jq x).getD k 0).toNat);rw[Ih];refine sto (s1.trans o) s2 ?_;refine ρ ?_;refine Uf rfl rfl (by decide) rfl ?_;refine ρ ?_;refine Qe (k+1) ((c+((Jq x).getD k 0).toNat) / 4294967296) (j++[UInt32.ofNat (c+((Jq x).getD k 0).toNat)]) ?_ ⟨s4,om,hI.step (by rw[aa];rfl),D⟩ om;rw[Jgk];exact sB
 have ak:k=L:=by have:=oF h;omega
 subst ak;have i:(j++List.replicate (k+1-k) (0:UInt32)).length=k+1:=by simp;omega
 have C:=a4;rw[Vt,i]at C;have o:(Nc (j++List.replicate (k+1-k) 0))[k]?=some (.int .u32 (((j++List.replicate (k+1-k) 0).getD k 0).toNat:Int)):=Va (by rw[i];omega);obtain⟨s1,s2,D,s4,s5⟩:=Vc C (q:=k) om (.int .u32 ((UInt32.ofNat c).toNat:Int));rw[Jyk,show k+1-k=0+1 by omega]at D;have e:=Jgm j 0 (UInt32.ofNat c);rw[ae,List.replicate_zero,List.append_nil]at e;rw[e]at D;have ab:=G.setCell s4 (.int .u32 ((UInt32.ofNat c).toNat:Int));refine ixR k (Rd.own C) om ?_;rw[Ih];refine sto (s1.trans o) s2 ?_;refine ρ ?_;have aj:(j++[UInt32.ofNat c]).length=k+1:=by simp;omega
 have a3:=Rd.own D;have a6:val (j++[UInt32.ofNat c])=n+m:=by
  obtain⟨i1,i2,i3⟩:=hI;rw[Jjt,i1];simp only[val,UInt32.toNat_ofNat'];rw[<-Z,<-Uq x,<-Uq y,<-List.take_of_length_le (show(Jq x).length<=k by omega),<-List.take_of_length_le (show(Jq y).length<=k by omega),<-i3,show c % 2^32+4294967296*0=c by omega]
 rw[<-aj]at a3 ⊢;refine cl (Jks a3 (nR _) om) ?_;rintro t w4 ⟨rfl,rfl⟩;have:=Jbc a3 om;rw[a6]at this ⊢;refine ρ ?_;exact Jj ⟨this,λad _ _ e=>hO ad (by injection e),ab⟩
theorem Xjc(hv:NatV w v n)(hu:NatV w u m)(hln:(Jq n).length<=1000)(hlm:(Jq m).length<=1000): Ret Tryz.prog 115 [v,u] w λr w'=>NatV w' r (n+m)/\Ext w w' :=
 (Jqk hv hu hln hlm).mono λ_ _ h=>⟨h.1,h.2.2⟩
open Go.RowKit Pl Go.Wk
variable {a b os:List UInt32}{c i m n s x y:Nat}
def dif(x c y:Nat): Nat:=(18446744073709551616+x-c-y) % 18446744073709551616
theorem Qmd(hx:x<4294967296)(hc:c<=1): IntKind.u64.wrap (IntKind.u64.wrap (x:Int)-(c:Int))=(dif x c 0:Int):=by
 unfold dif;simp only[IntKind.wrap_u64];omega
theorem Qmc(hx:x<4294967296)(hc:c<=1)(hy:y<4294967296): IntKind.u64.wrap ((dif x c 0:Int)-IntKind.u64.wrap (y:Int))=(dif x c y:Int):=by
 unfold dif;simp only[IntKind.wrap_u64];omega
theorem Jtn(n:Nat): (n:Int).fdiv (2^min (63:Int).toNat IntKind.u64.bits)=((n / 9223372036854775808:Nat):Int):=by
 have e:(2:Int)^min (63:Int).toNat IntKind.u64.bits=((9223372036854775808:Nat):Int):=by decide
 grind
theorem Xwb(hx:x<4294967296)(hc:c<=1)(hy:y<4294967296): dif x c y % 4294967296+y+c=x+4294967296*(dif x c y / 9223372036854775808)/\dif x c y / 9223372036854775808<=1:=by
 unfold dif;omega
def SubInv(a b:List UInt32)(i c:Nat)(os:List UInt32): Prop:=os.length=i/\c<=1/\val os+val (b.take i)=val (a.take i)+4294967296^i*c
theorem SubInv.step(h:SubInv a b i c os)(hs:s=dif (a.getD i 0).toNat c (b.getD i 0).toNat):
  SubInv a b (i+1) (s / 9223372036854775808) (os++[UInt32.ofNat s]):=by
 obtain⟨G,D,J⟩:=h;have C:(a.getD i 0).toNat<4294967296:=(a.getD i 0).toNat_lt;have u:(b.getD i 0).toNat<4294967296:=(b.getD i 0).toNat_lt;obtain⟨o,j⟩:=Xwb C D u;rw[<-hs]at o j;refine⟨by simp[G],j,?_⟩;grind [Jjt,Jkq,val,UInt32.toNat_ofNat',Nat.pow_succ,Nat.mul_assoc,Nat.mul_add]
theorem Qtz{v u:Value}{w:World}(hv:NatV w v n)(hu:NatV w u m)(hln:(Jq n).length<=1000):
  Ret Tryz.prog 116 [v,u] w λr w'=>(∃ x,r=.tuple #[x,.int .i64 (if n<m then 19 else 0)]/\NatV w' x (n-m)/\Fresh w x)/\Ext w w':=by
 refine enE Tryz.func116 Tryz.ntmps116 ?_;refine clR (Kl hv) ?_;rintro v' w' ⟨⟨A,rfl,ha⟩,rfl⟩;refine clR (Kl hu) ?_;rintro u' ao ⟨⟨B,rfl,hb⟩,rfl⟩;have ah:(Jq m).length<=4611686018427387904:=by obtain⟨_,_,_,_,h,_⟩:=hu;exact h
 refine clR (Jwt (n:=n) (m:=m) ⟨A,_,rfl,Nat.le_refl _,om,ha⟩ ⟨B,_,rfl,Nat.le_refl _,ah,hb⟩) ?_;rintro t w' ⟨rfl,j⟩;refine ciR (λh=>?_) (λh=>?_)
 .have Z:n<m:=by
   have:=oT h;unfold Yn at this;grind
  refine ρ ?_;refine Yt ⟨⟨.slice none 0 0,?_,?_,λad _ _ e=>by cases e⟩,j⟩
  .rw[if_pos Z]
  rw[show n-m=0 by omega];exact NatV.nil _
 have aj:m<=n:=by grind [Yn,Nat.lt_or_ge]
 have aq:(Jq m).length<=(Jq n).length:=by
  rcases Nat.lt_or_ge (Jq n).length (Jq m).length with h1|h1
  .have:=Qzc h1;omega
  exact h1
 have am:=ha.ext j;have ak:=hb.ext j;generalize hL:(Jq n).length=L at *
 refine ρ ?_;refine mkn EN L om (by unfold maxLen;omega) ?_;intro w1 O a2 ap hO;have an:=j.trans a2;have af:=j.size;have a8:Vt w1 w'.heap.size (.slice O L L) ([]++List.replicate L 0):=by
  have e:(madeCells (Value.int .u32 0).cells (L*1)).toList=Nc (List.replicate L 0):=by rw[Nat.mul_one,<-Jpg];exact Gq _ _
  grind
 refine ρ ?_;refine Zj (fun (k c:Nat) (i:List UInt32)=>[(0,.slice A L L),(1,.slice B (Jq m).length (Jq m).length),(6,.slice O L L),(7,.int .u64 (c:Int)),(22,.int .i64 (L:Int)),(23,.int .i64 (k:Int))])
  (λk c i D=>Ext w' D/\k<=L/\SubInv (Jq n) (Jq m) k c i/\Vt D w'.heap.size (.slice O L L) (i++List.replicate (L-k) 0)) (λk _ _=>L-k) 0 0 [] sB
  ⟨a2,Nat.zero_le _,⟨rfl,om,rfl⟩,a8⟩ ?_
 rintro k c i D ⟨G,hk,hI,a7⟩;have a5:=hI.1;have aa:=hI.2.1;have ac:=am.ext G;have ab:=ak.ext G;refine ciR (λh=>?_) (λh=>?_)
 .have Z:k<L:=by have:=oT h;omega
  have a9:((Jq n).getD k 0).toNat<4294967296:=((Jq n).getD k 0).toNat_lt;have ag:((Jq m).getD k 0).toNat<4294967296:=((Jq m).getD k 0).toNat_lt;have o:(i++List.replicate (L-k) (0:UInt32)).length=L:=by simp;omega
  have store:∀ s:Nat,D.cell? (adr O k)=(Nc (i++List.replicate (L-k) 0))[k]?/\D.frozen? (adr O k)=false /\
    Vt (D.setCell (adr O k) (.int .u32 ((UInt32.ofNat s).toNat:Int))) w'.heap.size (.slice O L L) ((i++[UInt32.ofNat s])++List.replicate (L-(k+1)) 0)/\Ext w' (D.setCell (adr O k) (.int .u32 ((UInt32.ofNat s).toNat:Int))):=λs=>by
   have a6:=a7;rw[Vt,o]at a6;obtain⟨s1,s2,s3,s4,s5⟩:=Vc a6 (q:=k) om (.int .u32 ((UInt32.ofNat s).toNat:Int));refine⟨s1,s2,?_,G.setCell s4 _⟩;rw[Jyk,show L-k=(L-(k+1))+1 by omega]at s3;have e:=Jgm i (L-(k+1)) (UInt32.ofNat s);grind
  have C:(Nc (i++List.replicate (L-k) 0))[k]?=some (.int .u32 (((i++List.replicate (L-k) 0).getD k 0).toNat:Int)):=Va (by rw[o];omega);have a1:Rd D 1 O L (Nc (i++List.replicate (L-k) 0)):=by have h5:=a7;rw[Vt,o]at h5;exact Rd.own h5
  refine ixR k ac Z ?_;refine ldR (ac.cell (Va (show k<(Jq n).length by omega))) ?_;refine ρ ?_;rw[Qmd a9 aa];refine ci (λh=>?_) (λh=>?_)
  .have J:k<(Jq m).length:=by have:=oT h;omega
   refine ixR k ab J ?_;refine ldR (ab.cell (Va J)) ?_;refine ixR k a1 om ?_;obtain⟨s1,s2,s3,s4⟩:=store (dif ((Jq n).getD k 0).toNat c ((Jq m).getD k 0).toNat);rw[Qmc a9 aa ag,Ih];refine sto (s1.trans C) s2 ?_;refine ρ ?_;refine Uf rfl rfl (by decide) rfl ?_;refine ρ ?_;refine Qe (k+1) (dif ((Jq n).getD k 0).toNat c ((Jq m).getD k 0).toNat / 9223372036854775808) (i++[UInt32.ofNat (dif ((Jq n).getD k 0).toNat c ((Jq m).getD k 0).toNat)]) ?_ ⟨s4,om,hI.step rfl,s3⟩ om;rw[Jtn];exact sB
  have aj:(Jq m).length<=k:=by have:=oF h;omega
  have ae:(Jq m).getD k 0=0:=by grind
  refine ixR k a1 om ?_;obtain⟨s1,s2,s3,s4⟩:=store (dif ((Jq n).getD k 0).toNat c 0);rw[Ih];refine sto (s1.trans C) s2 ?_;refine ρ ?_;refine Uf rfl rfl (by decide) rfl ?_;refine ρ ?_;refine Qe (k+1) (dif ((Jq n).getD k 0).toNat c 0 / 9223372036854775808) (i++[UInt32.ofNat (dif ((Jq n).getD k 0).toNat c 0)]) ?_ ⟨s4,om,hI.step (by rw[ae];rfl),s3⟩ om;rw[Jtn];exact sB
 have ai:k=L:=by have:=oF h;omega
 subst ai;have a4:Rd D 1 O i.length (Nc i):=by
  have:=Rd.own (show D.ownsRow w'.heap.size 64 1 (.slice O k k) k (Nc i) by grind);rw[a5];exact this
 have a3:val i=n-m:=by
  obtain⟨i1,i2,i3⟩:=hI;rw[List.take_of_length_le (show(Jq n).length<=k by omega),List.take_of_length_le (show(Jq m).length<=k by omega),Uq,Uq]at i3;have hv:=Jfw i;rw[i1]at hv;rcases Nat.eq_zero_or_pos c with h0|h0
  repeat grind
 refine ρ ?_;rw[<-a5];refine cl (Jks a4 (nR _) om) ?_;rintro t w4 ⟨rfl,rfl⟩;have:=Jbc a4 om;rw[a3]at this ⊢;refine ρ ?_;refine Yt ⟨⟨_,?_,this,λad _ _ e=>nL af (hO ad (by injection e))⟩,j.trans G⟩;rw[if_neg om]
end Go.Proofs.YtgobkbeokaaplaaGreatDoor
namespace Go.Proofs.YtgobkbeokaaplaaGreatDoor
namespace Pl
structure V where
 kind: Int
 num:Int
 str:ByteArray
def V.bytes(v:V): List UInt8:=v.str.data.toList
def V.cells(v:V): List Value:=[.int .i64 v.kind,.int .i64 v.num,.string v.str]
def V.val(v:V): Value:=.agg #[.int .i64 v.kind,.int .i64 v.num,.string v.str]
end Pl
open Go.RowKit Pl Go.Wk _root_.Go.Proofs.Tryz
attribute [local irreducible] WC WL QX WD WDB
def V0: V:=⟨0,0,⟨#[]⟩⟩
def Jp(r:List V): List Value:=r.flatMap V.cells
abbrev RdR(w:World)(A:Option Addr)(r:List V): Prop:=Rd w 3 A r.length (Jp r)
abbrev RdB(w:World)(A:Option Addr)(ds:List Bool): Prop:=Rd w 1 A ds.length (ds.map Value.bool)
theorem Jhg(r:List V): (Jp r).length=r.length*3:=by
 induction r with
 | nil=>rfl
 | cons v r ih=>simp only[Jp,List.flatMap_cons,List.length_append,V.cells,List.length_cons,List.length_nil]at ih ⊢;omega
theorem Jhh: ∀(r:List V) (i j:Nat),i<r.length->j<3->(Jp r)[i*3+j]?=(r.getD i V0).cells[j]?
 | [],i,j,h,_=>by simp at h
 | v::r,0,j,_,hj=>by
  simp only[Jp,List.flatMap_cons,Nat.zero_mul,Nat.zero_add,List.getD_cons_zero];grind [List.getElem?_append_left,V.cells]
 | v::r,i+1,j,h,hj=>by
  have ih:=Jhh r i j (by simpa using h) hj;grind [Jp,List.getD_cons_succ,List.getElem?_append_right,V.cells]
theorem RdR.cell{w:World}{A:Option Addr}{r:List V}(h:RdR w A r){i j:Nat}{u:Value}(hi:i<r.length)(hu:(r.getD i V0).cells[j]?=some u): w.cell? ((adr A (i*3)).add j)=some u:=by grind [List.getElem?_eq_some_iff.1,V.cells,Xv,Rd.cell,Jhh]
theorem RdB.cell{w:World}{A:Option Addr}{ds:List Bool}(h:RdB w A ds){i:Nat}(hi:i<ds.length): w.cell? (adr A i)=some (.bool (ds.getD i false)) :=
 Rd.cell h (by grind)
theorem V.one(v:V): ∀ u∈v.cells,u.oneCell'=true:=by
 intro u i;simp[V.cells]at i;rcases i with rfl|rfl|rfl<;>rfl
theorem Jxp(r:List V): ∀ u∈Jp r,u.oneCell'=true:=by
 intro u j;obtain⟨v,_,i⟩:=List.mem_flatMap.1 j;simp[V.cells]at i;rcases i with rfl|rfl|rfl<;>rfl
theorem Qns(a b:List V): Jp (a++b)=Jp a++Jp b:=by simp[Jp]
def cmpV(a b:V): Int:=if a.kind≠b.kind then sgn a.kind b.kind else if a.num≠b.num then sgn a.num b.num else Lib.compareBytes a.bytes b.bytes
def neg(d:Bool)(c:Int): Int:=if d then -c else c
def Jv: List V->List V->List Bool->Int
 | [],[],_=>0
 | [],_::_,_=>-1
 | _::_,[],_=>1
 | x::a,y::b,ds=>if cmpV x y=0 then Jv a b (ds.drop 1) else neg (ds.getD 0 false) (cmpV x y)
theorem Xwm(a b:ByteArray)(w:World): Ret prog 229 [.string a,.string b] w λv w'=>v=.int .i64 (Lib.compareBytes a.data.toList b.data.toList)/\w'=w:=by
 refine enE func229 ntmps229 ?_;refine ρ ?_;refine wext (vs:=[.string a,.string b]) (v:=.int .i64 (Lib.compareBytes a.data.toList b.data.toList)) (w':=w) ?_ ?_
 .rw[run_callFunc_extern func249 kr kr kr (e:=Extern.BytealgCompare.compare) kr,Lib.run_compareString];rfl
 refine ρ ?_;exact Jj ⟨rfl,rfl⟩
theorem Qmf(a b:ByteArray)(w:World): Ret prog 208 [.string a,.string b] w λv w'=>v=.int .i64 (Lib.compareBytes a.data.toList b.data.toList)/\w'=w:=by
 refine enE func208 ntmps208 ?_;refine clR (Xwm a b w) ?_;rintro v w' ⟨rfl,rfl⟩;refine ρ ?_;exact Jj ⟨rfl,rfl⟩
theorem Jxh(a b:V)(w:World): Ret prog 184 [a.val,b.val] w λr w'=>r=.int .i64 (cmpV a b)/\Ext w w':=by
 refine enE func184 ntmps184 ?_;refine bxR ?_;intro w1 b1 u O i;refine bxR ?_;intro Z b2 o J j;have i:=i.ext o;have C:=u.trans o;refine ldR (i.at rfl) ?_;refine ldR (j.at rfl) ?_;refine ciR (λG=>?_) (λG=>?_)
 .refine ldR (i.at rfl) ?_;refine ldR (j.at rfl) ?_;refine clR (Qvx _ _ _) ?_;rintro t D ⟨rfl,rfl⟩;refine ρ ?_;refine Jj ⟨?_,C⟩;grind [cmpV]
 refine ldR (i.at rfl) ?_;refine ldR (j.at rfl) ?_;refine ciR (λhn=>?_) (λhn=>?_)
 .refine ldR (i.at rfl) ?_;refine ldR (j.at rfl) ?_;refine clR (Xwl _ _ _) ?_;rintro t D ⟨rfl,rfl⟩;refine ρ ?_;refine Jj ⟨?_,C⟩;grind [cmpV]
 refine ldR (i.at rfl) ?_;refine ldR (j.at rfl) ?_;refine clR (Qmf _ _ _) ?_;rintro t D ⟨rfl,rfl⟩;refine ρ ?_;refine Jj ⟨?_,C⟩;rw[cmpV,if_neg (by simpa using G),if_neg (by simpa using hn)];rfl
end Go.Proofs.YtgobkbeokaaplaaGreatDoor
namespace Go.Proofs.YtgobkbeokaaplaaGreatDoor
open Pl
variable {α β:Type}
structure PreC{α:Type}(f:α->α->Int): Prop where
 anti:∀ a b,f b a = - f a b
 trans:∀ a b c,f a b<=0->f b c<=0->f a c<=0
theorem PreC.refl{f:α->α->Int}(h:PreC f)(a:α): f a a=0:=by have:=h.anti a a;omega
structure Cmp{α:Type}(f:α->α->Int): Prop where
 anti:∀ a b,f b a = - f a b
 zero:∀ a b,f a b=0->a=b
 trans:∀ a b c,f a b<=0->f b c<=0->f a c<=0
theorem Cmp.pre{f:α->α->Int}(h:Cmp f)(g:β->α): PreC λa b=>f (g a) (g b):=⟨λa b=>h.anti _ _,λa b c=>h.trans _ _ _⟩
section
variable {α:Type} {f:α->α->Int}
theorem Cmp.refl(h:Cmp f)(a:α): f a a=0:=by have:=h.anti a a;omega
theorem Cmp.lt_le(h:Cmp f){a b c:α}(h1:f a b<0)(h2:f b c<=0): f a c<0:=by
 have i:=h.trans a b c om h2;rcases Int.lt_or_eq_of_le i with h4|h4
 .exact h4
 have:=h.zero _ _ h4;subst this;have:=h.anti a b;omega
theorem Cmp.le_lt(h:Cmp f){a b c:α}(h1:f a b<=0)(h2:f b c<0): f a c<0:=by
 have i:=h.trans a b c h1 om;rcases Int.lt_or_eq_of_le i with h4|h4
 .exact h4
 have:=h.zero _ _ h4;subst this;have:=h.anti a b;omega
theorem Cmp.lt_trans(h:Cmp f){a b c:α}(h1:f a b<0)(h2:f b c<0): f a c<0:=h.lt_le h1 om
theorem Cmp.tot(h:Cmp f)(a b:α): f a b<0∨a=b∨f b a<0:=by
 have i:=h.anti a b;rcases Int.lt_trichotomy (f a b) 0 with h2|h2|h2
 .exact .inl h2
 .exact .inr (.inl (h.zero _ _ h2))
 repeat grind
theorem Cmp.flip(h:Cmp f): Cmp λa b=>- f a b :=
 ⟨λa b=>by rw[h.anti a b],λa b h0=>h.zero a b om,λa b c j i=>by
  have C:=h.anti a b;have u:=h.anti b c;have o:=h.anti a c;have:=h.trans c b a om om;omega⟩
end
theorem cmp_sgn: Cmp sgn:=by
 refine⟨λa b=>?_,λa b h=>?_,λa b c j i=>?_⟩
 .unfold sgn;split<;>split<;>omega
 .unfold sgn at h;split at h;repeat grind
 repeat grind [sgn]
theorem Jtt(a b:Int): sgn a b = -1∨sgn a b=0∨sgn a b=1:=by
 unfold sgn;grind
theorem Qbl: ∀ x y:List UInt8,Lib.compareBytes y x = - Lib.compareBytes x y
 | [],[]=>rfl
 | [],_::_=>rfl
 | _::_,[]=>rfl
 | a::x,b::y=>by
  simp only[Lib.compareBytes];have ih:=Qbl x y;grind
theorem Qbh: ∀ x y:List UInt8,Lib.compareBytes x y=0->x=y
 | [],[],_=>rfl
 | [],_::_,h=>by simp[Lib.compareBytes]at h
 | _::_,[],h=>by simp[Lib.compareBytes]at h
 | a::x,b::y,h=>by
  simp only[Lib.compareBytes,UInt8.lt_iff_toNat_lt]at h;split at h
  .cases h
  split at h
  .cases h
  rw[Qbh x y h,UInt8.toNat_inj.1 (show a.toNat=b.toNat by omega)]
theorem Qbj: ∀ x y z:List UInt8,Lib.compareBytes x y<=0->Lib.compareBytes y z<=0->Lib.compareBytes x z<=0
 | [],_,[],_,_=>by simp[Lib.compareBytes]
 | [],_,_::_,_,_=>by simp[Lib.compareBytes]
 | _::_,[],_,h,_=>by simp[Lib.compareBytes]at h
 | _::_,_::_,[],_,h=>by simp[Lib.compareBytes]at h
 | a::x,b::y,c::z,h1,h2=>by
  simp only[Lib.compareBytes,UInt8.lt_iff_toNat_lt]at *;split at h1
  .grind
  split at h1
  .grind
  split at h2
  .grind
  split at h2
  .grind
  rw[if_neg om,if_neg om];exact Qbj x y z h1 h2
theorem cb_3: ∀ x y:List UInt8,Lib.compareBytes x y = -1∨Lib.compareBytes x y=0∨Lib.compareBytes x y=1
 | [],[]=>by simp[Lib.compareBytes]
 | [],_::_=>by simp[Lib.compareBytes]
 | _::_,[]=>by simp[Lib.compareBytes]
 | a::x,b::y=>by
  simp only[Lib.compareBytes];split
  .simp
  split
  .simp
  exact cb_3 x y
theorem V.ext{a b:V}(h1:a.kind=b.kind)(h2:a.num=b.num)(h3:a.bytes=b.bytes): a=b:=by
 obtain⟨k,n,s⟩:=a;obtain⟨o,j,i⟩:=b;simp only[V.bytes]at *;obtain⟨d⟩:=s;obtain⟨u⟩:=i;simp only at h1 h2 h3;rw[h1,h2,Array.toList_inj.1 h3]
theorem Jbm{a b:Int}(h:a≠b): sgn a b≠0:=λe=>h (cmp_sgn.zero _ _ e)
theorem Qyh(a b:V): cmpV a b = -1∨cmpV a b=0∨cmpV a b=1:=by
 unfold cmpV;split
 .exact Jtt _ _
 split
 repeat grind [Jtt,cb_3]
theorem cmp_V: Cmp cmpV:=by
 refine⟨λa b=>?_,λa b h=>?_,λa b c j i=>?_⟩
 .unfold cmpV;by_cases h:a.kind=b.kind
  .rw[if_neg (not_not_intro h),if_neg (not_not_intro h.symm)];by_cases i:a.num=b.num
   .grind [Qbl]
   rw[if_pos i,if_pos (Ne.symm i)];exact cmp_sgn.anti _ _
  rw[if_pos h,if_pos (Ne.symm h)];exact cmp_sgn.anti _ _
 .unfold cmpV at h;split at h
  .grind [Jbm]
  rename_i j;split at h
  repeat grind [Jbm,V.ext,Qbh]
 unfold cmpV at *;by_cases k1:a.kind=b.kind<;>by_cases k2:b.kind=c.kind
 .have C:a.kind=c.kind:=k1.trans k2;rw[if_neg (by simp[k1])]at j;rw[if_neg (by simp[k2])]at i;rw[if_neg (by simp[C])];by_cases n1:a.num=b.num<;>by_cases n2:b.num=c.num
  .grind [Qbj]
  .grind
  .grind
  rw[if_pos n1]at j;rw[if_pos n2]at i;have u:=cmp_sgn.lt_le (a:=a.num) (c:=c.num) (by grind [Jbm]) i;have o:a.num≠c.num:=by intro e;rw[e,cmp_sgn.refl]at u;omega
  rw[if_pos o];omega
 .grind
 .grind
 rw[if_pos k1]at j;rw[if_pos k2]at i;have u:=cmp_sgn.lt_le (a:=a.kind) (c:=c.kind) (by grind [Jbm]) i;have o:a.kind≠c.kind:=by intro e;rw[e,cmp_sgn.refl]at u;omega
 rw[if_pos o];omega
theorem Vv(a:V): cmpV a a=0:=cmp_V.refl a
theorem Jlc(d:Bool): neg d 0=0:=by cases d<;>rfl
theorem Jqw(d:Bool): Cmp λa b=>neg d (cmpV a b):=by
 cases d
 .exact cmp_V
 exact cmp_V.flip
theorem Jnh: ∀(a b:List V) (ds:List Bool),Jv b a ds = - Jv a b ds
 | [],[],_=>rfl
 | [],_::_,_=>rfl
 | _::_,[],_=>rfl
 | x::a,y::b,ds=>by
  simp only[Jv];have h:=cmp_V.anti x y;by_cases e:cmpV x y=0
  .rw[if_pos e,if_pos om];exact Jnh a b _
  rw[if_neg e,if_neg om];exact(Jqw _).anti x y
theorem Jzz: ∀(a b:List V) (ds:List Bool),Jv a b ds=0->a=b
 | [],[],_,_=>rfl
 | [],_::_,_,h=>by simp[Jv]at h
 | _::_,[],_,h=>by simp[Jv]at h
 | x::a,y::b,ds,h=>by
  simp only[Jv]at h;split at h
  .rename_i e;rw[cmp_V.zero _ _ e,Jzz a b _ h]
  rename_i e;exact absurd (congrArg (cmpV x) ((Jqw _).zero x y h)) (by grind [Vv])
theorem Qyk: ∀(a b c:List V) (ds:List Bool),Jv a b ds<=0->Jv b c ds<=0->Jv a c ds<=0
 | [],_,[],_,_,_=>by simp[Jv]
 | [],_,_::_,_,_,_=>by simp[Jv]
 | _::_,[],_,_,h,_=>by simp[Jv]at h
 | _::_,_::_,[],_,_,h=>by simp[Jv]at h
 | x::a,y::b,z::c,ds,h1,h2=>by
  simp only[Jv]at *;have N:=Jqw (ds.getD 0 false);by_cases e1:cmpV x y=0
  .rw[if_pos e1]at h1;rw[cmp_V.zero _ _ e1];by_cases e2:cmpV y z=0
   .rw[if_pos e2]at h2 ⊢;exact Qyk a b c _ h1 h2
   repeat grind
  rw[if_neg e1]at h1;by_cases e2:cmpV y z=0
  .rw[<-cmp_V.zero _ _ e2,if_neg e1];exact h1
  rw[if_neg e2]at h2;have hne:neg (ds.getD 0 false) (cmpV x y)≠0:=λe=>e1 (by have:=N.zero x y e;grind [Vv]);have h3:=N.lt_le (a:=x) (b:=y) (c:=z) om h2;grind [cmpV,Jlc]
theorem Gt(ds:List Bool): Cmp λa b=>Jv a b ds:=⟨λa b=>Jnh a b ds,λa b h=>Jzz a b ds h,λa b c j i=>Qyk a b c ds j i⟩
theorem Ye(a:List V)(ds:List Bool): Jv a a ds=0:=(Gt ds).refl a
open Go.RowKit Pl Go.Wk _root_.Go.Proofs.Tryz
attribute [local irreducible] WC WL QX WD WDB
variable {ds:List Bool}{a b:List V}{k:Nat}{va vb vd:Value}{w:World}
def RowV(w:World)(v:Value)(r:List V): Prop:=∃ A c,v=.slice A r.length c/\r.length<=c/\r.length<=1100000/\RdR w A r
def BoolsV(w:World)(v:Value)(ds:List Bool): Prop:=∃ A c,v=.slice A ds.length c/\ds.length<=c/\ds.length<=1100000/\RdB w A ds
theorem RowV.ext{w w':World}{v:Value}{r:List V}(h:RowV w v r)(hx:Ext w w'): RowV w' v r:=by
 obtain⟨A,c,u,o,j,i⟩:=h;exact⟨A,c,u,o,j,i.ext hx⟩
theorem BoolsV.ext{w w':World}{v:Value}{r:List Bool}(h:BoolsV w v r)(hx:Ext w w'): BoolsV w' v r:=by
 obtain⟨A,c,u,o,j,i⟩:=h;exact⟨A,c,u,o,j,i.ext hx⟩
theorem RowV.nil(w:World)(A:Option Addr)(c:Nat): RowV w (.slice A 0 c) []:=⟨A,c,rfl,by simp,by simp,Rd.nil⟩
theorem BoolsV.nil(w:World)(A:Option Addr)(c:Nat): BoolsV w (.slice A 0 c) []:=⟨A,c,rfl,by simp,by simp,Rd.nil⟩
theorem Qys(ha:k<a.length)(hb:k<b.length): Jv (a.drop k) (b.drop k) (ds.drop k) =
  if cmpV (a.getD k V0) (b.getD k V0)=0 then Jv (a.drop (k+1)) (b.drop (k+1)) (ds.drop (k+1)) else neg (ds.getD k false) (cmpV (a.getD k V0) (b.getD k V0)):=by grind [List.drop_eq_getElem_cons,Jv,V0,List.getD,List.getElem?_eq_getElem,List.drop_drop]
theorem Qyq(hk:a.length<=k∨b.length<=k)(hka:k<=a.length)(hkb:k<=b.length): Jv (a.drop k) (b.drop k) (ds.drop k)=if a.length<b.length then -1 else if b.length<a.length then 1 else 0:=by
 rcases Nat.lt_trichotomy a.length b.length with h|h|h
 .rw[if_pos h,List.drop_of_length_le (by omega:a.length<=k),List.drop_eq_getElem_cons (by omega:k<b.length)];rfl
 .rw[if_neg om,if_neg om,List.drop_of_length_le (by omega:a.length<=k),List.drop_of_length_le (by omega:b.length<=k)];rfl
 rw[if_neg om,if_pos h,List.drop_of_length_le (by omega:b.length<=k),List.drop_eq_getElem_cons (by omega:k<a.length)];rfl
theorem Jpv(a b:V): IntKind.i64.wrap (0-cmpV a b)=neg true (cmpV a b):=by
 rcases Qyh a b with h|h|h<;>rw[h]<;>rfl
theorem Xjj(n m:Nat): (if(m:Int)<(n:Int) then(m:Int) else(n:Int))=((min n m:Nat):Int):=by split<;>omega
theorem Qvz(ha:RowV w va a)(hb:RowV w vb b)(hd:BoolsV w vd ds):
  Ret prog 146 [va,vb,vd] w λr w'=>r=.int .i64 (Jv a b ds)/\Ext w w':=by
 obtain⟨A,ac,rfl,aj,ai,ha⟩:=ha;obtain⟨B,bc,rfl,ah,ag,hb⟩:=hb;obtain⟨D,dc,rfl,ae,ad,hd⟩:=hd;refine enE func146 ntmps146 ?_;refine ρ ?_;rw[Xjj];refine Qs (λk=>[(0,.slice A a.length ac),(1,.slice B b.length bc),(2,.slice D ds.length dc),(13,.int .i64 ((min a.length b.length:Nat):Int)),(14,.int .i64 ((k:Nat):Int))])
  (λk w'=>Ext w w'/\k<=a.length/\k<=b.length/\Jv a b ds=Jv (a.drop k) (b.drop k) (ds.drop k)) (λk=>a.length-k) 0 sB ⟨Ext.refl w,Nat.zero_le _,Nat.zero_le _,rfl⟩ ?_
 rintro k w1 ⟨C,a8,a7,he⟩;have aa:=ha.ext C;have a9:=hb.ext C;have af:=hd.ext C;refine ρ ?_;have a6:(a.length<=k∨b.length<=k)->Jv a b ds=if a.length<b.length then -1 else if b.length<a.length then 1 else 0:=λh=>by rw[he,Qyq h a8 a7]
 refine ci (λh=>?_) (λh=>?_)
 .have ab:k<min a.length b.length:=by have:=oT h;omega
  have J:k<a.length:=om
  have G:k<b.length:=om
  refine drR (scq 10 [8]) ?_;have o:Ext w1 w1.drew:=(Ext.refl w1).drew;have a5:=aa.ext o;have a4:=a9.ext o;refine Zu 3 k a5 J ?_;refine Qf (λj u hu=>RdR.cell a5 J hu) ?_;refine Zu 3 k a4 G ?_;refine Qf (λj u hu=>RdR.cell a4 G hu) ?_;refine Qq (Jxh (a.getD k V0) (b.getD k V0) _) ?_;rintro x w2 ⟨rfl,Z⟩;refine⟨Z,?_⟩;have i:Ext w w2:=(C.trans o).trans Z;have a3:=hd.ext i;refine ρd ?_;refine ρ ?_;have step:=Qys (ds:=ds) J G;refine ci (λh0=>?_) (λh0=>?_)
  .refine ρ ?_;refine Qm (k+1) sB ⟨i,om,om,?_⟩ om;grind
  have a1:=Zz h0;refine ρ ?_;refine ki 32 (λh=>?_) (λh=>?_)
  .have a2:k<ds.length:=by have:=oT h;omega
   refine ixR k a3 a2 ?_;refine ldR (RdB.cell a3 a2) ?_;refine ciR (λh1=>?_) (λh1=>?_)
   .refine ρ ?_;refine Jj ⟨?_,i⟩;grind [Jpv]
   refine ρ ?_;refine Jj ⟨?_,i⟩;rw[he,step,h1,if_neg a1];rfl
  have h1:ds.getD k false=false:=by grind
  refine ρ ?_;refine Jj ⟨?_,i⟩;rw[he,step,h1,if_neg a1];rfl
 have O:=a6 (by grind);refine ciR (λh=>?_) (λh1=>?_)
 .refine ρ ?_;refine Jj ⟨?_,C⟩;rw[O,if_pos (by grind)]
 refine ciR (λh=>?_) (λh2=>?_)
 .refine ρ ?_;refine Jj ⟨?_,C⟩;rw[O,if_neg (by grind),if_pos (by grind)]
 refine ρ ?_;refine Jj ⟨?_,C⟩;rw[O,if_neg (by grind),if_neg (by grind)]
theorem Qjj(ha:RowV w va a)(hb:RowV w vb b):
  Ret prog 90 [va,vb] w λr w'=>r=.int .i64 (Jv a b [])/\Ext w w':=by
 refine enE func90 ntmps90 ?_;refine clR (Qvz ha hb (BoolsV.nil w none 0)) ?_;rintro v j ⟨rfl,i⟩;refine ρ ?_;exact Jj ⟨rfl,i⟩
theorem Xvh(a b:List V)(ds:List Bool): (Jv a b ds == 0)=true↔a=b:=by
 constructor
 .intro h;exact Jzz _ _ _ (Zv h)
 repeat grind [Ye]
instance:DecidableEq V:=λa b=>if h:cmpV a b=0 then isTrue (cmp_V.zero _ _ h) else isFalse (λe=>h (by rw[e];exact Vv b))
theorem Xvg(a b:List V)(ds:List Bool): (Jv a b ds == 0)=decide (a=b):=by
 rw[Bool.eq_iff_iff,Xvh,decide_eq_true_iff]
theorem Jhb(ha:RowV w va a)(hb:RowV w vb b):
  Ret prog 32 [va,vb] w λr w'=>r=.bool (decide (a=b))/\Ext w w':=by
 refine enE func32 ntmps32 ?_;refine clR (Qjj ha hb) ?_;rintro v j ⟨rfl,i⟩;refine ρ ?_;refine Jj ⟨?_,i⟩;rw[Xvg]
open Go.RowKit Pl Go.Wk _root_.Go.Proofs.Tryz
attribute [local irreducible] WP
variable {j k x:Nat}
def Js(x:Nat): Nat:=if x=0 then 0 else Nat.log2 x+1
theorem Jvc: x<2^Js x:=by
 unfold Js;split
 .omega
 exact Nat.lt_log2_self
theorem Jll(h:x≠0): 0<Js x/\2^(Js x-1)<=x:=by grind [Js,Nat.log2_self_le]
theorem Gl(h:x<2^k): Js x<=k:=by
 unfold Js;split
 .omega
 rename_i h0;have:=(Nat.log2_lt h0).2 h;omega
theorem Xqk(h1:2^k<=x)(h2:x<2^(k+1)): Js x=k+1:=by
 have j:=Gl h2;have i:=Jvc (x:=x);rcases Nat.lt_or_ge (Js x) (k+1) with h|h
 .have:=Nat.pow_le_pow_right (show 0<2 by omega) (show Js x<=k by omega);omega
 omega
theorem Jvb(h:2^k<=x): Js x=k+Js (x / 2^k):=by
 have hp:0<2^k:=Nat.pow_pos om;have i:x / 2^k≠0:=by
  have:=(Nat.le_div_iff_mul_le hp).2 (show 1*2^k<=x by omega);omega
 obtain⟨a,b⟩:=Jll i;have c:=Jvc (x:=x / 2^k);generalize Js (x / 2^k)=m at *
 obtain⟨m,rfl⟩:∃ j,m=j+1:=⟨m-1,om⟩;rw[Nat.add_sub_cancel]at b;have:=Xqk (x:=x) (k:=k+m) (by grind [Nat.pow_add,Nat.le_div_iff_mul_le,Nat.mul_comm]) (by
  rw[show k+m+1=(m+1)+k by omega,Nat.pow_add];exact(Nat.div_lt_iff_lt_mul hp).1 c)
 omega
theorem tabB(s:ByteArray)(h:((List.range 256).all λj=>(s.data.toList.getD j 0).toNat == Js j)=true)(hj:j<256): (s.data.toList.getD j 0).toNat=Js j:=by grind
theorem Jkx(y k m:Nat): ((y:Int)).fdiv (2^(min ((k:Nat):Int).toNat m))=((y / 2^(min k m):Nat):Int):=by grind
theorem Xql(x:Nat)(hx:x<18446744073709551616)(w:World): Ret prog 85 [.int .u64 (x:Int)] w λv w'=>v=.int .i64 (Js x:Int)/\w'=w:=by
 refine enE func85 ntmps85 ?_;refine ρ ?_;refine Jjs (fun (y s:Nat)=>[(0,.int .u64 (y:Int)),(2,.int .i64 (s:Int))]) (λy s w'=>w'=w/\Js x=s+Js y/\y<4294967296/\s<=32) ?_ ?_
 .refine ci (λh=>?_) (λh=>?_)
  .have o:=oT h;refine ρ ?_;refine Uf rfl rfl (by decide) rfl ?_;refine kv 6 (u:=.int .u64 ((x / 2^32:Nat):Int)) (congrArg (Value.int .u64) (Jkx x 32 64)) ?_;refine ρ ?_;have e:=Jvb (x:=x) (k:=32) om;exact Vp (x / 2^32) 32 sO ⟨rfl,e,om,om⟩
  have o:=oF h;refine ρ ?_;exact Vp x 0 sO ⟨rfl,om,om,om⟩
 rintro j G w ⟨rfl,e0,b0,c0⟩;refine ρ ?_;refine Jjs (fun (y s:Nat)=>[(0,.int .u64 (y:Int)),(2,.int .i64 (s:Int))]) (λy s w'=>w'=w/\Js x=s+Js y/\y<65536/\s<=48) ?_ ?_
 .refine ci (λh=>?_) (λh=>?_)
  .have o:=oT h;refine ρ ?_;refine Uf rfl rfl (by decide) rfl ?_;refine kv 10 (u:=.int .u64 ((j / 2^16:Nat):Int)) (congrArg (Value.int .u64) (Jkx j 16 64)) ?_;refine ρ ?_;have e:=Jvb (x:=j) (k:=16) om;exact Vp (j / 2^16) (G+16) sO ⟨rfl,om,om,om⟩
  have o:=oF h;refine ρ ?_;exact Vp j G sO ⟨rfl,om,om,om⟩
 rintro i D w ⟨rfl,e1,b1,c1⟩;refine ρ ?_;refine Jjs (fun (y s:Nat)=>[(0,.int .u64 (y:Int)),(2,.int .i64 (s:Int))]) (λy s w'=>w'=w/\Js x=s+Js y/\y<256/\s<=56) ?_ ?_
 .refine ci (λh=>?_) (λh=>?_)
  .have o:=oT h;refine ρ ?_;refine Uf rfl rfl (by decide) rfl ?_;refine kv 16 (u:=.int .u64 ((i / 2^8:Nat):Int)) (congrArg (Value.int .u64) (Jkx i 8 64)) ?_;refine ρ ?_;have e:=Jvb (x:=i) (k:=8) om;exact Vp (i / 2^8) (D+8) sO ⟨rfl,om,om,om⟩
  have o:=oF h;refine ρ ?_;exact Vp i D sO ⟨rfl,om,om,om⟩
 rintro C O w ⟨rfl,Z,J,c2⟩;refine ρ ?_;refine Jpt Il C rfl rfl rfl rfl ?_ ?_ rfl ?_
 .rw[IntKind.wrap_u8];omega
 .exact nM J (by decide)
 refine kv 22 (u:=.int .u8 (Js C:Int)) (congrArg (λz:Nat=>Value.int .u8 (z:Int)) (tabB _ kr J)) ?_;have:=Gl (x:=C) (k:=8) om;refine ρ ?_;refine Jj ⟨?_,rfl⟩;grind [Jjg,Js]
theorem Qzs(x:Nat)(hx:x<4294967296)(w:World): Ret prog 84 [.int .u32 (x:Int)] w λv w'=>v=.int .i64 (Js x:Int)/\w'=w:=by
 refine enE func84 ntmps84 ?_;refine ρ ?_;refine Jjs (fun (y s:Nat)=>[(0,.int .u32 (y:Int)),(2,.int .i64 (s:Int))]) (λy s w'=>w'=w/\Js x=s+Js y/\y<65536/\s<=16) ?_ ?_
 .refine ci (λh=>?_) (λh=>?_)
  .have o:=oT h;refine ρ ?_;refine Uf rfl rfl (by decide) rfl ?_;refine kv 6 (u:=.int .u32 ((x / 2^16:Nat):Int)) (congrArg (Value.int .u32) (Jkx x 16 32)) ?_;refine ρ ?_;have e:=Jvb (x:=x) (k:=16) om;exact Vp (x / 2^16) 16 sO ⟨rfl,e,om,om⟩
  have o:=oF h;refine ρ ?_;exact Vp x 0 sO ⟨rfl,om,om,om⟩
 rintro i C w ⟨rfl,O,b0,c0⟩;refine ρ ?_;refine Jjs (fun (y s:Nat)=>[(0,.int .u32 (y:Int)),(2,.int .i64 (s:Int))]) (λy s w'=>w'=w/\Js x=s+Js y/\y<256/\s<=24) ?_ ?_
 .refine ci (λh=>?_) (λh=>?_)
  .have o:=oT h;refine ρ ?_;refine Uf rfl rfl (by decide) rfl ?_;refine kv 10 (u:=.int .u32 ((i / 2^8:Nat):Int)) (congrArg (Value.int .u32) (Jkx i 8 32)) ?_;refine ρ ?_;have e:=Jvb (x:=i) (k:=8) om;exact Vp (i / 2^8) (C+8) sO ⟨rfl,om,om,om⟩
  have o:=oF h;refine ρ ?_;exact Vp i C sO ⟨rfl,om,om,om⟩
 rintro j G w ⟨rfl,J,D,Z⟩;refine ρ ?_;refine Jpt Il j rfl rfl rfl rfl ?_ ?_ rfl ?_
 .rw[IntKind.wrap_u8];omega
 .exact nM D (by decide)
 refine kv 16 (u:=.int .u8 (Js j:Int)) (congrArg (λz:Nat=>Value.int .u8 (z:Int)) (tabB _ kr D)) ?_;have:=Gl (x:=j) (k:=8) om;refine ρ ?_;refine Jj ⟨?_,rfl⟩;grind [Jjg,Js]
theorem Qcf(x:Nat)(h:x<18446744073709551616)(w:World): Ret prog 27 [.int .u64 (x:Int)] w λv w'=>v=.int .i64 (Js x:Int)/\w'=w:=by
 refine enE func27 ntmps27 ?_;refine clR (Xql x h w) ?_;rintro v w' ⟨rfl,rfl⟩;refine ρ ?_;exact Jj ⟨rfl,rfl⟩
end Go.Proofs.YtgobkbeokaaplaaGreatDoor
namespace Go.Proofs.YtgobkbeokaaplaaGreatDoor
variable {a a' b b' i j:Nat}
section
variable {α:Type} (z:α)
def swp(q:List α)(i j:Nat): List α:=(q.set i (q.getD j z)).set j (q.getD i z)
theorem Qlx(q:List α)(i j:Nat): (swp z q i j).length=q.length:=by simp[swp]
theorem Jml(q:List α)(i k:Nat)(x:α)(hi:i<q.length): (q.set i x).getD k z=if k=i then x else q.getD k z:=by grind
theorem Jgg(q:List α)(hi:i<q.length)(hj:j<q.length)(k:Nat): (swp z q i j).getD k z=if k=j then q.getD i z else if k=i then q.getD j z else q.getD k z:=by grind [swp,Jml]
theorem Qd(q:List α)(h:i<q.length): q.getD i z=q[i]:=by grind
theorem Jsr(q:List α)(hi:i<q.length)(hj:j<q.length): (swp z q i j).Perm q:=by grind [swp,Qd,List.set_set_perm]
theorem getD_mem'(q:List α)(h:i<q.length): q.getD i z∈q:=by grind
structure Seg(a b:Nat)(q q':List α): Prop where
 perm:q'.Perm q
 lo:∀ k,k<a->q'.getD k z=q.getD k z
 hi:∀ k,b<=k->q'.getD k z=q.getD k z
variable {z}
theorem Seg.len{q q':List α}(h:Seg z a b q q'): q'.length=q.length:=h.perm.length_eq
theorem Seg.refl(a b:Nat)(q:List α): Seg z a b q q:=⟨List.Perm.refl _,λ_ _=>rfl,λ_ _=>rfl⟩
theorem Seg.trans{a b:Nat}{q q' q'':List α}(h:Seg z a b q q')(k:Seg z a b q' q''): Seg z a b q q'' :=
 ⟨k.perm.trans h.perm,λi hi=>(k.lo i hi).trans (h.lo i hi),λi hi=>(k.hi i hi).trans (h.hi i hi)⟩
theorem Seg.mono{q q':List α}(h:Seg z a b q q')(h1:a'<=a)(h2:b<=b'): Seg z a' b' q q' :=
 ⟨h.perm,λi hi=>h.lo i om,λi hi=>h.hi i om⟩
theorem Seg.swp{q:List α}(h1:a<=i)(h2:i<b)(h3:a<=j)(h4:j<b)(hb:b<=q.length): Seg z a b q (swp z q i j) :=
 ⟨Jsr z q om om,λk o=>by grind [Jgg],λk o=>by grind [Jgg]⟩
theorem Qwj{q q':List α}(hl:q'.length=q.length)(h:∀ k,k<q.length->q'.getD k z=q.getD k z): q'=q:=by grind [List.ext_getElem,Qd]
theorem getD_take(q:List α)(a k:Nat)(h:k<a): (q.take a).getD k z=q.getD k z:=by simp[List.getD,h]
theorem Qwk(q:List α)(a k:Nat): (q.drop a).getD k z=q.getD (a+k) z:=by grind
theorem Seg.all{q q':List α}(h:Seg z a b q q')(hab:a<=b)(hb:b<=q.length){Φ:α->Prop}(H:∀ k,a<=k->k<b->Φ (q.getD k z)): ∀ k,a<=k->k<b->Φ (q'.getD k z):=by
 intro k h1 Z;have u:=h.len;have J:q'.take a=q.take a:=Qwj (z:=z) (by simp[u]) (λi hi=>by
  have j:i<a:=by simp at hi;omega
  rw[getD_take _ _ _ j,getD_take _ _ _ j];exact h.lo i j)
 have G:q'.drop b=q.drop b:=Qwj (z:=z) (by simp[u]) (λi hi=>by
  rw[Qwk,Qwk];exact h.hi _ om)
 have s:∀ l:List α,l=l.take a++((l.take b).drop a++l.drop b):=λl=>by grind [List.append_assoc,List.take_append_drop]
 have p:=h.perm;rw[s q',s q,J,G]at p;have C:=(List.perm_append_right_iff _).1 ((List.perm_append_left_iff _).1 p);have D:q'.getD k z∈(q'.take b).drop a:=by
  have e:((q'.take b).drop a).getD (k-a) z=q'.getD k z:=by grind
  grind [getD_mem']
 have o:=C.mem_iff.1 D;obtain⟨i,hi,O⟩:=List.getElem_of_mem o;have:((q.take b).drop a).getD i z=q'.getD k z:=by grind
 grind
end
section
variable {α:Type} (z:α) (f:α->α->Int)
def SOn(q:List α)(a b:Nat): Prop:=∀ i j,a<=i->i<j->j<b->f (q.getD i z) (q.getD j z)<=0
variable {z f}
theorem SOn.mono{q:List α}(h:SOn z f q a b)(h1:a<=a')(h2:b'<=b): SOn z f q a' b':=λi j hi o u=>h i j om o om
theorem SOn.same{q q':List α}(h:SOn z f q a b)(he:∀ k,a<=k->k<b->q'.getD k z=q.getD k z): SOn z f q' a b:=λi j hi o u=>by
 rw[he i hi om,he j om u];exact h i j hi o u
theorem SOn.one(q:List α)(h:b<=a+1): SOn z f q a b:=λi j hi o u=>by omega
def InsI(z:α)(f:α->α->Int)(q:List α)(a i j:Nat): Prop:=a<=j/\j<=i/\(∀ k m,a<=k->k<m->m<=i->k≠j->m≠j->f (q.getD k z) (q.getD m z)<=0)/\(∀ m,j<m->m<=i->f (q.getD j z) (q.getD m z)<=0)
theorem InsI.start{q:List α}(h:SOn z f q a i)(hi:a<=i): InsI z f q a i i :=
 ⟨hi,Nat.le_refl _,λk m o j D C u=>h k m o j om,λm o j=>om⟩
theorem InsI.step{q:List α}(h:InsI z f q a i j)(hj:a<j)(hi:i<q.length)(hlt:f (q.getD j z) (q.getD (j-1) z)<0): InsI z f (swp z q j (j-1)) a i (j-1):=by
 obtain⟨h1,Z,O,J⟩:=h;have s:=λk=>Jgg z q (i:=j) (j:=j-1) om om k;refine⟨om,om,λk m u o G D C=>?_,λm u o=>?_⟩;repeat grind
theorem InsI.done0{q:List α}(h:InsI z f q a i a): SOn z f q a (i+1):=by
 obtain⟨J,G,D,C⟩:=h;intro k m u o j;grind
theorem InsI.done{q:List α}(hf:PreC f)(h:InsI z f q a i j)(hj:a<j)(hge:¬ f (q.getD j z) (q.getD (j-1) z)<0): SOn z f q a (i+1):=by
 obtain⟨Z,O,C,J⟩:=h;have o:f (q.getD (j-1) z) (q.getD j z)<=0:=by have:=hf.anti (q.getD j z) (q.getD (j-1) z);omega
 intro k m u G D;by_cases e:k=j
 .grind
 by_cases e2:m=j
 .subst e2;by_cases e3:k=m-1
  .rw[e3];exact o
  exact hf.trans _ _ _ (C k (m-1) u om om e om) o
 repeat grind
end
open Go.RowKit Pl Go.Wk
attribute [local irreducible] WC WL QX WD WDB WP
variable {ds:List Bool}{base c i j n:Nat}{A:Option Addr}{fv v:Value}{w w' w1:World}
abbrev Pr:= Value×List V
def z0: Pr:=(undef,[])
def Dat(w:World)(base:Nat)(v:Value)(ps:List Pr): Prop:=w.ownsRow base 59 1 v ps.length (ps.map (·.1))/\∀ p∈ps,p.1.oneCell'=true
theorem Dat.ext{ps:List Pr}(h:Dat w base v ps)(hx:Ext w w'): Dat w' base v ps:=⟨Jk h.1 hx,h.2⟩
theorem Dat.rd{ps:List Pr}(h:Dat w base (.slice A n c) ps)(hn:ps.length=n): Rd w 1 A n (ps.map (·.1)):=by
 have:=h.1;rw[hn]at this;exact Rd.own this
theorem Jwg{ps:List Pr}(h:i<ps.length): (ps.map (·.1))[i]?=some (ps.getD i z0).1:=by grind
theorem Dat.cell{w:World}{base:Nat}{A:Option Addr}{n c:Nat}{ps:List Pr}(h:Dat w base (.slice A n c) ps)(hn:ps.length=n){i:Nat}(hi:i<n): w.cell? (adr A i)=some (ps.getD i z0).1 :=
 (h.rd hn).cell (Jwg om)
theorem Dat.one{ps:List Pr}(h:Dat w base v ps)(hi:i<ps.length): (ps.getD i z0).1.oneCell'=true:=h.2 _ (getD_mem' z0 ps hi)
theorem Dat.store{ps:List Pr}(h:Dat w base (.slice A n c) ps)(hn:ps.length=n)(hi:i<n){p:Pr}(hp:p.1.oneCell'=true):
  w.frozen? (adr A i)=false/\Dat (w.setCell (adr A i) p.1) base (.slice A n c) (ps.set i p)/\w.grownBy (w.setCell (adr A i) p.1) (Value.slice A n c).ownBlock:=by
 have j:=h.1;rw[hn]at j;obtain⟨J,u,G,D,o⟩:=Vc j (q:=i) om p.1;refine⟨u,⟨?_,λq C=>?_⟩,o⟩
 .grind [List.length_set,List.map_set]
 rcases List.mem_or_eq_of_mem_set C with h'|h'
 .exact h.2 q h'
 rw[h'];exact hp
theorem Dat.swap{ps:List Pr}(h:Dat w base (.slice A n c) ps)(hn:ps.length=n)(hi:i<n)(hj:j<n):
  w.frozen? (adr A i)=false/\Rd (w.setCell (adr A i) (ps.getD j z0).1) 1 A n ((ps.set i (ps.getD j z0)).map (·.1))/\(w.setCell (adr A i) (ps.getD j z0).1).frozen? (adr A j)=false /\
  (∃ u,(w.setCell (adr A i) (ps.getD j z0).1).cell? (adr A j)=some u)/\Dat ((w.setCell (adr A i) (ps.getD j z0).1).setCell (adr A j) (ps.getD i z0).1) base (.slice A n c) (swp z0 ps i j) /\
  w.grownBy ((w.setCell (adr A i) (ps.getD j z0).1).setCell (adr A j) (ps.getD i z0).1) (Value.slice A n c).ownBlock:=by
 obtain⟨Z,C,O⟩:=h.store hn hi (p:=ps.getD j z0) (h.one om);have o:(ps.set i (ps.getD j z0)).length=n:=by simp[hn]
 obtain⟨J,G,D⟩:=C.store o hj (p:=ps.getD i z0) (h.one om);exact⟨Z,C.rd o,J,⟨_,C.cell o hj⟩,G,Vk O D⟩
def fP(ds:List Bool)(p q:Pr): Int:=Jv p.2 q.2 ds
theorem preP(ds:List Bool): PreC (fP ds):=(Gt ds).pre (β:=Pr) (λp=>p.2)
def CmpF(w:World)(row:Option Nat)(fv:Value)(M:List Pr)(ds:List Bool): Prop:=∃ fid first cap,fv=.func (.func fid) first cap /\
 ∀ w',w.grownBy w' row->∀ p q,p∈M->q∈M->Ret Tryz.prog fid (first.toList++[p.1,q.1]++cap.toList) w' λr w''=>r=.int .i64 (fP ds p q)/\Ext w' w''
theorem CmpF.step{row:Option Nat}{M M':List Pr}(h:CmpF w row fv M ds)(hg:w.grownBy w1 row)(hp:M'.Perm M): CmpF w1 row fv M' ds:=by
 obtain⟨u,first,C,G,D⟩:=h;exact⟨u,first,C,G,λw' o p q j i=>D w' (Vk hg o) p q (hp.mem_iff.1 j) (hp.mem_iff.1 i)⟩
theorem Qkv{a b:Nat}{ai bi:Int}{ps:List Pr}(hD:Dat w base (.slice A n c) ps)(hn:ps.length=n)(hai:ai=(a:Int))(hbi:bi=(b:Int))(hb:b<=n)(ha:a<=n)(hmx:n<=140737488355328)(hC:CmpF w (Value.slice A n c).ownBlock fv ps ds):
  Ret Tryz.prog 212 [.slice A n c,.int .i64 ai,.int .i64 bi,fv] w λv w'=>∃ ps',Dat w' base (.slice A n c) ps'/\Seg z0 a b ps ps'/\SOn z0 (fP ds) ps' a b/\w.grownBy w' (Value.slice A n c).ownBlock:=by
 subst hai;subst hbi;obtain⟨ab,first,ac,rfl,hC⟩:=hC;refine enE Tryz.func212 Tryz.ntmps212 ?_;refine ρ ?_;refine Jo (fun (i:Nat) (q:List Pr)=>[(0,.slice A n c),(1,.int .i64 (a:Int)),(2,.int .i64 (b:Int)),(3,.func (.func ab) first ac),(8,.int .i64 ((i:Nat):Int))])
  (λi q w'=>a+1<=i/\(i<=b∨i=a+1)/\Seg z0 a b ps q/\SOn z0 (fP ds) q a i/\Dat w' base (.slice A n c) q/\w.grownBy w' (Value.slice A n c).ownBlock) (λi _=>b+1-i) (a+1) ps sO
  ⟨nR _,.inr rfl,Seg.refl _ _ _,SOn.one _ om,hD,Vh (Ext.refl w) _⟩ ?_
 rintro i q w1 ⟨hai,ag,a7,a8,aa,a6⟩;refine ciR (λh=>?_) (λh=>?_)
 .have af:i<b:=by have:=oT h;omega
  refine ρ ?_;refine Jo (fun (j:Nat) (q:List Pr)=>[(0,.slice A n c),(1,.int .i64 (a:Int)),(2,.int .i64 (b:Int)),(3,.func (.func ab) first ac),(8,.int .i64 ((i:Nat):Int)),(9,.int .i64 ((j:Nat):Int))])
   (λj q w'=>InsI z0 (fP ds) q a i j/\Seg z0 a b ps q/\Dat w' base (.slice A n c) q/\w.grownBy w' (Value.slice A n c).ownBlock) (λj _=>j) i q sB ⟨InsI.start a8 om,a7,aa,a6⟩ ?_
  rintro j q w2 ⟨hI,G,ae,ad⟩;have o:q.length=n:=by rw[G.len,hn]
  obtain⟨h1,h2,_,_⟩:=id hI;refine drR (scq 17 [14]) ?_;have a4:Ext w2 w2.drew:=(Ext.refl w2).drew;have J:=ae.ext a4;have a2:=Vk ad (Vh a4 _);refine ρd ?_;refine dki 21 (λh=>?_) (λh=>?_)
  .have hj:a<j:=by have:=oT h;omega
   have Z:j<n:=om
   have D:j-1<n:=om
   refine Jd j (J.rd o) Z ?_;refine Jz (J.cell o Z) ?_;refine Jd (j-1) (J.rd o) D ?_;refine Jz (J.cell o D) ?_;refine ρd ?_;refine Yy (hC _ a2 (q.getD j z0) (q.getD (j-1) z0) (G.perm.mem_iff.1 (getD_mem' z0 q om)) (G.perm.mem_iff.1 (getD_mem' z0 q om))) ?_;rintro r w4 ⟨rfl,a1⟩;refine⟨a1,?_⟩;have a9:=J.ext a1;have a5:=Vk a2 (Vh a1 _);refine ρd ?_;refine ciR (λh=>?_) (λh=>?_)
   .have O:=oT h;refine ρ ?_;refine drC 4 [0,1,2,3,4,5,6,7,10,11] [(0,8),(0,9),(0,12),(0,13),(0,14),(2,15),(2,16),(2,17)] kr ?_;have a3:Ext w4 w4.drew:=(Ext.refl w4).drew;have C:=a9.ext a3;obtain⟨s1,s2,s3,⟨u,s4⟩,s5,s6⟩:=C.swap o Z D;refine ρp ?_;refine dix (j-1) (C.rd o) D ?_;refine Jz (C.cell o D) ?_;refine Jd j (C.rd o) Z ?_;refine Jz (C.cell o Z) ?_;refine Jd j (C.rd o) Z ?_;refine ρd ?_;refine Qv ?_;refine sto (C.cell o Z) s1 ?_ (hv:=C.one (o.symm ▸ D));refine ρ ?_;refine Xz ?_;refine Qv ?_;refine ix (j-1) s2 D ?_;refine ρ ?_;refine Xz ?_;refine Qv ?_;refine sto s4 s3 ?_ (hv:=C.one (o.symm ▸ Z));refine ρ ?_;exact Jf (j-1) (swp z0 q j (j-1)) sO ⟨hI.step hj om O,G.trans (Seg.swp om om om om om),s5,Vk a5 (Vk (Vh a3 _) s6)⟩ om
   have O:=oF h;refine ρ ?_;exact Jf (i+1) q sB ⟨om,om,G,hI.done (preP ds) hj O,a9,a5⟩ om
  have hj:j=a:=by have:=oF h;omega
  subst hj;refine ρd ?_;refine ρ ?_;exact Jf (i+1) q sB ⟨om,om,G,hI.done0,J,a2⟩ om
 refine ρ ?_;have hbi:b<=i:=by grind
 exact Kc ⟨q,aa,a7,a8.mono (nR _) hbi,a6⟩
end Go.Proofs.YtgobkbeokaaplaaGreatDoor
namespace Go.Wk
variable {a b:Int}{k1 k2:IntKind}{x y:Operand}{t yt:TypeId}
section
variable {P:Program} {n:Nat} {al:AL} {w:World} {Q:Exit->Act->World->Prop} {ops:Array Oper} {rest:List Oper} {d ty:Nat} {pos:String} {aft:Array Edge}
theorem qn(m q:Nat)(k:WL P n ops Q rest ((d,.int .i64 ((m / q:Nat):Int))::al) w)(hx:ev al x=some (.int .i64 a):=by rfl)(hy:ev al y=some (.int .i64 b):=by rfl)(ha:a=(m:Int):=by first|rfl|omega)(hb:b=(q:Int):=by first|rfl|omega)(h0:0<q:=by omega)(hm:m<=9223372036854775807:=by omega)(hd:Nat.blt d n=true:=by rfl): WL P n ops Q (⟨some d,.binOp .quo t x y yt,ty,pos,aft,none⟩::rest) al w:=by
 subst ha;subst hb;refine wquo hx hy om hd ?_;have e:IntKind.i64.wrap ((m:Int).tdiv (q:Int))=((m / q:Nat):Int):=by
  rw[Int.tdiv_eq_ediv_of_nonneg om,<-Int.natCast_ediv];have:=Nat.div_le_self m q;generalize m / q=r at *
  exact Jjg om
 rw[e];exact k
variable {drest:List (Nat×Oper)}
theorem dshl(k:WD P n ops Q drest ((d,.int k1 (k1.wrap (a*2^(min b.toNat k1.bits))))::al) w)(hx:ev al x=some (.int k1 a):=by rfl)(hy:ev al y=some (.int k2 b):=by rfl)(h0:0<=b:=by decide)(hd:Nat.blt d n=true:=by rfl):
  WD P n ops Q ((0,⟨some d,.binOp .shl t x y yt,ty,pos,aft,none⟩)::drest) al w :=
 dy (λw' _ e i=>by
  have j:¬ b<0:=om
  simp[execOp,i.ev hx,i.ev hy,eqGuard,binOp,Op.shift,j]) hd k
theorem dshr(k:WD P n ops Q drest ((d,.int k1 (a.fdiv (2^(min b.toNat k1.bits))))::al) w)(hx:ev al x=some (.int k1 a):=by rfl)(hy:ev al y=some (.int k2 b):=by rfl)(h0:0<=b:=by decide)(hd:Nat.blt d n=true:=by rfl):
  WD P n ops Q ((0,⟨some d,.binOp .shr t x y yt,ty,pos,aft,none⟩)::drest) al w :=
 dy (λw' _ e i=>by
  have j:¬ b<0:=om
  simp[execOp,i.ev hx,i.ev hy,eqGuard,binOp,Op.shift,j]) hd k
end
end Go.Wk
namespace Go.Proofs.YtgobkbeokaaplaaGreatDoor
open Go.RowKit Pl Go.Wk
attribute [local irreducible] WC WL QX WD WDB WP
variable {cap first:Array Value}{fid:FuncId}{ai bi fsti hii loi:Int}{ds:List Bool}{M ps q q':List Pr}{a b base c fst g hi i j lo n t:Nat}{A:Option Addr}{w w' w0 w1:World}
structure DP(w0 w:World)(base:Nat)(A:Option Addr)(n c:Nat)(ps q:List Pr): Prop where
 d:Dat w base (.slice A n c) q
 p:q.Perm ps
 g:w0.grownBy w (Value.slice A n c).ownBlock
 l:q.length=n
section
variable {w0 w w':World} {base:Nat} {A:Option Addr} {n c:Nat} {ps q:List Pr}
theorem DP.start(hD:Dat w base (.slice A n c) ps)(hn:ps.length=n): DP w w base A n c ps ps:=⟨hD,List.Perm.refl _,Vh (Ext.refl w) _,hn⟩
theorem DP.ext(h:DP w0 w base A n c ps q)(hx:Ext w w'): DP w0 w' base A n c ps q:=⟨h.d.ext hx,h.p,Vk h.g (Vh hx _),h.l⟩
theorem DP.drew(h:DP w0 w base A n c ps q): DP w0 w.drew base A n c ps q:=h.ext (Ext.refl w).drew
theorem DP.rd(h:DP w0 w base A n c ps q): Rd w 1 A n (q.map (·.1)):=h.d.rd h.l
theorem DP.cell(h:DP w0 w base A n c ps q){i:Nat}(hi:i<n): w.cell? (adr A i)=some (q.getD i z0).1:=h.d.cell h.l hi
theorem DP.one(h:DP w0 w base A n c ps q){i:Nat}(hi:i<n): (q.getD i z0).1.oneCell'=true:=h.d.one (h.l.symm ▸ hi)
theorem DP.swap(h:DP w0 w base A n c ps q){i j:Nat}(hi:i<n)(hj:j<n):
  w.frozen? (adr A i)=false/\Rd (w.setCell (adr A i) (q.getD j z0).1) 1 A n ((q.set i (q.getD j z0)).map (·.1))/\(w.setCell (adr A i) (q.getD j z0).1).frozen? (adr A j)=false /\
  (∃ u,(w.setCell (adr A i) (q.getD j z0).1).cell? (adr A j)=some u)/\DP w0 ((w.setCell (adr A i) (q.getD j z0).1).setCell (adr A j) (q.getD i z0).1) base A n c ps (swp z0 q i j)/\w.grownBy ((w.setCell (adr A i) (q.getD j z0).1).setCell (adr A j) (q.getD i z0).1) (Value.slice A n c).ownBlock:=by
 obtain⟨O,J,G,D,C,o⟩:=h.d.swap h.l hi hj;exact⟨O,J,G,D,⟨C,(Jsr z0 q (h.l.symm ▸ hi) (h.l.symm ▸ hj)).trans h.p,Vk h.g o,by rw[Qlx];exact h.l⟩,o⟩
theorem DP.box(h:DP w0 w base A n c ps q){cs:List Value}(hB:Blk w g t cs)(hne:Nat.beq 59 t=false)(hg:w0.heap.size<=g)(u:Value): DP w0 (w.setCell ⟨g,0,none⟩ u) base A n c ps q:=by
 have j:w.grownBy (w.setCell ⟨g,0,none⟩ u) (some g):=⟨rfl,rfl,rfl,by simp[World.setCell],λk i hn=>Below.heap_setCell w ⟨g,0,none⟩ u k (λe=>hn (by rw[e]))⟩;refine⟨⟨h.d.1.kept j (Or.inr ?_),h.d.2⟩,h.p,?_,h.l⟩
 .exactλe=>hB.ne_own h.d.1 hne e.symm
 refine⟨h.g.os,h.g.tape,h.g.output,?_,λk i hn=>?_⟩
 .simp[World.setCell];exact h.g.size
 exact(Below.heap_setCell w ⟨g,0,none⟩ u k (by simp;omega)).trans (h.g.block k i hn)
end
def CF(w:World)(row:Option Nat)(fid:FuncId)(first cap:Array Value)(M:List Pr)(ds:List Bool): Prop :=
 ∀ w',w.grownBy w' row->∀ p q,p∈M->q∈M->Ret Tryz.prog fid (first.toList++[p.1,q.1]++cap.toList) w' λr w''=>r=.int .i64 (fP ds p q)/\Ext w' w''
theorem CF.call(hC:CF w0 (Value.slice A n c).ownBlock fid first cap ps ds)(h:DP w0 w base A n c ps q)(hi:i<n)(hj:j<n):
  Ret Tryz.prog fid (first.toList++[(q.getD i z0).1,(q.getD j z0).1]++cap.toList) w λr w''=>∃ b:Int,r=.int .i64 b/\Ext w w'' :=
 (hC w h.g _ _ (h.p.mem_iff.1 (getD_mem' z0 q (h.l.symm ▸ hi))) (h.p.mem_iff.1 (getD_mem' z0 q (h.l.symm ▸ hj)))).mono λr w'' ⟨u,o⟩=>⟨_,u,o⟩
theorem CF.pack{row:Option Nat}(h:CF w row fid first cap M ds): CmpF w row (.func (.func fid) first cap) M ds:=⟨fid,first,cap,rfl,h⟩
theorem CF.step(hC:CF w (Value.slice A n c).ownBlock fid first cap ps ds)(h:DP w w1 base A n c ps q): CF w1 (Value.slice A n c).ownBlock fid first cap q ds :=
 λw' i a b o j=>hC w' (Vk h.g i) a b (h.p.mem_iff.1 o) (h.p.mem_iff.1 j)
theorem DP.after(h:DP w0 w base A n c ps q)(k:DP w w' base A n c q q'): DP w0 w' base A n c ps q':=⟨k.d,k.p.trans h.p,Vk h.g k.g,k.l⟩
theorem Qnx(hD:Dat w base (.slice A n c) ps)(hn:ps.length=n)(hmx:n<=140737488355328)(hC:CF w (Value.slice A n c).ownBlock fid first cap ps ds)(hai:ai=(a:Int))(hbi:bi=(b:Int))(hab:a<b)(hb:b<=n):
  Ret Tryz.prog 217 [.slice A n c,.int .i64 ai,.int .i64 bi,.func (.func fid) first cap] w λv w'=>∃ ps',DP w w' base A n c ps ps':=by
 subst hai;subst hbi;refine enE Tryz.func217 Tryz.ntmps217 ?_;refine ρ ?_;refine Zj (fun (i j:Nat) (q:List Pr)=>[(0,.slice A n c),(8,.int .i64 (i:Int)),(9,.int .i64 ((j:Int)-1))])
  (λi j q w'=>DP w w' base A n c ps q/\j<=n/\i<=n) (λi j _=>n+j-i) a b ps sO ⟨DP.start hD hn,hb,om⟩ ?_
 rintro i j q w1 ⟨H,hj,hi⟩;refine ciR (λh=>?_) (λh=>?_)
 .have a1:i+1<j:=by have:=oT h;omega
  have C:i<n:=om
  have D:j-1<n:=om
  refine ρ ?_;refine drC 4 [0,1,2,3,4,5,8,9] [(0,6),(0,7),(0,10),(0,11),(0,12),(2,13),(2,14),(2,15)] kr ?_;have o:=H.drew;obtain⟨s1,Z,O,⟨u,J⟩,G,s6⟩:=o.swap C D;refine ρp ?_;refine dix (j-1) o.rd D ?_;refine Jz (o.cell D) ?_;refine Jd (i) o.rd C ?_;refine Jz (o.cell C) ?_;refine Jd (i) o.rd C ?_;refine ρd ?_;refine Qv ?_;refine sto (o.cell C) s1 ?_ (hv:=o.one D);refine ρ ?_;refine Xz ?_;refine Qv ?_;refine ix (j-1) Z D ?_;refine ρ ?_;refine Xz ?_;refine Qv ?_;refine sto J O ?_ (hv:=o.one C);refine ρ ?_;exact Qe (i+1) (j-1) (swp z0 q i (j-1)) sO ⟨G,om,om⟩ om
 refine ρ ?_;exact Kc ⟨q,H⟩
theorem Jtk(hD:Dat w base (.slice A n c) ps)(hn:ps.length=n)(hmx:n<=140737488355328)(hC:CF w (Value.slice A n c).ownBlock fid first cap ps ds)(hlo:loi=(lo:Int))(hhi:hii=(hi:Int))(hfst:fsti=(fst:Int))(hb:fst+hi<=n)(hl:lo<=n):
  Ret Tryz.prog 231 [.slice A n c,.int .i64 loi,.int .i64 hii,.int .i64 fsti,.func (.func fid) first cap] w λv w'=>∃ ps',DP w w' base A n c ps ps':=by
 subst hlo;subst hhi;subst hfst;refine enE Tryz.func231 Tryz.ntmps231 ?_;refine ρ ?_;refine Jo (fun (i:Nat) (q:List Pr)=>[(0,.slice A n c),(2,.int .i64 (hi:Int)),(3,.int .i64 (fst:Int)),(4,.func (.func fid) first cap),(10,.int .i64 (i:Int))])
  (λi q w'=>DP w w' base A n c ps q/\i<=n) (λi _=>n-i) lo ps sB ⟨DP.start hD hn,hl⟩ ?_
 rintro i q w1 ⟨H,hr⟩;refine ciR (λh=>?_) (λh=>?_)
 .refine ρ ?_;exact Kc ⟨q,H⟩
 have a6:2*i+1<hi:=by have:=oF h;omega
 refine ρ ?_;refine Zc (fun (b:Bool)=>[(0,.slice A n c),(2,.int .i64 (hi:Int)),(3,.int .i64 (fst:Int)),(4,.func (.func fid) first cap),(10,.int .i64 (i:Int)),(11,.int .i64 (2*(i:Int)+1)),(40,.bool b)]) (λb w'=>DP w w' base A n c ps q/\(b=true->2*i+2<hi)) ?_ ?_
 .skip
  refine dr (scq 22 [19]) kr ?_;have Z:=H.drew;refine ρd ?_;refine dki 23 (λh=>?_) (λh=>?_)
  .have a1:2*i+2<hi:=by have:=oT h;omega
   have li:fst+(2*i+1)<n:=om
   have lj:fst+(2*i+1)+1<n:=om
   refine Jd (fst+(2*i+1)) Z.rd li ?_;refine Jz (Z.cell li) ?_;refine Jd (fst+(2*i+1)+1) Z.rd lj ?_;refine Jz (Z.cell lj) ?_;refine ρd ?_;refine Yy (hC.call Z li lj) ?_;rintro r a4 ⟨a8,rfl,O⟩;refine⟨O,?_⟩;have H2:=Z.ext O;refine ρd ?_;refine ρ ?_;exact Jc _ sB ⟨H2,λ_=>a1⟩
  refine ρd ?_;refine ρ ?_;exact Jc false sB ⟨Z,λe=>by cases e⟩
 rintro b w2 ⟨H2,a2⟩;refine Zc (fun (j:Nat)=>[(0,.slice A n c),(2,.int .i64 (hi:Int)),(3,.int .i64 (fst:Int)),(4,.func (.func fid) first cap),(10,.int .i64 (i:Int)),(11,.int .i64 (j:Int))]) (λj w'=>DP w w' base A n c ps q/\i<j/\j<hi) ?_ ?_
 .refine ci (λh=>?_) (λh=>?_)
  .have:=a2 h;refine ρ ?_;exact Jc (2*i+2) sO ⟨H2,om,om⟩
  refine ρ ?_;exact Jc (2*i+1) sO ⟨H2,om,om⟩
 rintro j w3 ⟨H3,a1,a5⟩;have D:fst+i<n:=om
 have G:fst+j<n:=om
 refine drR (scq 16 [13]) ?_;have C:=H3.drew;refine ρd ?_;refine Jd (fst+i) C.rd D ?_;refine Jz (C.cell D) ?_;refine Jd (fst+j) C.rd G ?_;refine Jz (C.cell G) ?_;refine ρd ?_;refine Yy (hC.call C D G) ?_;rintro r a3 ⟨a7,rfl,J⟩;refine⟨J,?_⟩;have H4:=C.ext J;refine ρd ?_;refine ciR (λh=>?_) (λh=>?_)
 .refine ρ ?_;exact Jzs ⟨q,H4⟩
 refine ρ ?_;refine drC 4 [0,1,2,3,4,5,6,7,8,9,10,11,14,15,16,17] [(0,12),(0,13),(0,18),(0,19),(0,20),(2,21),(2,22),(2,23)] kr ?_;have o:=H4.drew;obtain⟨s1,s2,s3,⟨u,s4⟩,s5,s6⟩:=o.swap D G;refine ρp ?_;refine dix (fst+j) o.rd G ?_;refine Jz (o.cell G) ?_;refine Jd (fst+i) o.rd D ?_;refine Jz (o.cell D) ?_;refine Jd (fst+i) o.rd D ?_;refine ρd ?_;refine Qv ?_;refine sto (o.cell D) s1 ?_ (hv:=o.one G);refine ρ ?_;refine Xz ?_;refine Qv ?_;refine ix (fst+j) s2 G ?_;refine ρ ?_;refine Xz ?_;refine Qv ?_;refine sto s4 s3 ?_ (hv:=o.one D);refine ρ ?_;exact Jf j (swp z0 q (fst+i) (fst+j)) sB ⟨s5,om⟩ om
theorem Xzl(hD:Dat w base (.slice A n c) ps)(hn:ps.length=n)(hmx:n<=140737488355328)(hC:CF w (Value.slice A n c).ownBlock fid first cap ps ds)(hai:ai=(a:Int))(hbi:bi=(b:Int))(hab:a<b)(hb:b<=n):
  Ret Tryz.prog 214 [.slice A n c,.int .i64 ai,.int .i64 bi,.func (.func fid) first cap] w λv w'=>∃ ps',DP w w' base A n c ps ps':=by
 subst hai;subst hbi;refine enE Tryz.func214 Tryz.ntmps214 ?_;refine ρ ?_;refine qn (b-a-1) 2 ?_;refine ρ ?_;refine Jo (fun (i:Nat) (q:List Pr)=>[(0,.slice A n c),(3,.func (.func fid) first cap),(8,.int .i64 (a:Int)),(9,.int .i64 0),(10,.int .i64 ((b:Int)-(a:Int))),(11,.int .i64 ((i:Int)-1))])
  (λi q w'=>DP w w' base A n c ps q/\i<=n) (λi _=>i) ((b-a-1) / 2+1) ps sO ⟨DP.start hD hn,om⟩ ?_
 rintro i q w1 ⟨H,hi⟩;refine ciR (λh=>?_) (λh=>?_)
 .have J:0<i:=by have:=oT h;omega
  refine clR (Jtk (lo:=i-1) (hi:=b-a) (fst:=a) (loi:=(i:Int)-1) (hii:=(b:Int)-(a:Int)) H.d H.l hmx (hC.step H) om om rfl om om) ?_;rintro v Z ⟨G,O⟩;refine ρ ?_;exact Jf (i-1) G sO ⟨H.after O,om⟩ om
 refine ρ ?_;refine Jo (fun (i:Nat) (q:List Pr)=>[(0,.slice A n c),(3,.func (.func fid) first cap),(8,.int .i64 (a:Int)),(9,.int .i64 0),(12,.int .i64 ((i:Int)-1))])
  (λi q w'=>DP w w' base A n c ps q/\i<=b-a) (λi _=>i) (b-a) q sO ⟨H,om⟩ ?_
 rintro i q w1 ⟨H,hi⟩;refine ciR (λh=>?_) (λh=>?_)
 .have J:0<i:=by have:=oT h;omega
  have o:a<n:=om
  have C:a+(i-1)<n:=om
  refine ρ ?_;refine drC 4 [0,1,2,3,4,5,6,7,8,9,12,13] [(0,10),(0,11),(0,14),(0,15),(0,16),(2,17),(2,18),(2,19)] kr ?_;have j:=H.drew;obtain⟨s1,s2,s3,⟨u,s4⟩,D,s6⟩:=j.swap o C;refine ρp ?_;refine dix (a+(i-1)) j.rd C ?_;refine Jz (j.cell C) ?_;refine Jd (a) j.rd o ?_;refine Jz (j.cell o) ?_;refine Jd (a) j.rd o ?_;refine ρd ?_;refine Qv ?_;refine sto (j.cell o) s1 ?_ (hv:=j.one C);refine ρ ?_;refine Xz ?_;refine Qv ?_;refine ix (a+(i-1)) s2 C ?_;refine ρ ?_;refine Xz ?_;refine Qv ?_;refine sto s4 s3 ?_ (hv:=j.one o);refine clR (Jtk (lo:=0) (hi:=i-1) (fst:=a) (loi:=0) (hii:=(i:Int)-1) D.d D.l hmx (hC.step D) rfl om rfl om om) ?_;rintro v Z ⟨G,O⟩;refine ρ ?_;exact Jf (i-1) G sO ⟨D.after O,om⟩ om
 refine ρ ?_;exact Kc ⟨q,H⟩
open Go.RowKit Pl Go.Wk _root_.Go.Proofs.Tryz
variable {cap first:Array Value}{fid:FuncId}{ai bi s:Int}{ds:List Bool}{ps q:List Pr}{a b base c e g n:Nat}{A:Option Addr}{w w0:World}
theorem zInt: Qu prog 3=some (.int .i64 0):=kr
theorem zXor: Qu prog 325=some (.int .u64 0):=kr
theorem Jhw(H:DP w0 w base A n c ps q)(hmx:n<=140737488355328)(hC:CF w0 (Value.slice A n c).ownBlock fid first cap ps ds)(hB:Blk w g 3 [.int .i64 s])(hg:w0.heap.size<=g)(ha:a<n)(hb:b<n):
  Ret prog 251 [.slice A n c,.int .i64 (a:Int),.int .i64 (b:Int),.pointer (some ⟨g,0,none⟩),.func (.func fid) first cap] w λr w'=>∃ x y:Nat,∃ s':Int,r=.tuple #[.int .i64 (x:Int),.int .i64 (y:Int)]/\((x=a/\y=b)∨(x=b/\y=a))/\DP w0 w' base A n c ps q/\Blk w' g 3 [.int .i64 s']:=by
 refine enE func251 ntmps251 ?_;refine drR (scq 11 [9]) ?_;have o:=H.drew;refine ρd ?_;refine Jd (b) o.rd hb ?_;refine Jz (o.cell hb) ?_;refine Jd (a) o.rd ha ?_;refine Jz (o.cell ha) ?_;refine ρd ?_;refine Yy (hC.call o hb ha) ?_;rintro r C ⟨D,rfl,j⟩;refine⟨j,?_⟩;have u:=o.ext j;refine ρd ?_;refine ρ ?_;have i:=(hB.ext (Ext.refl w).drew).ext j;refine ci (λh=>?_) (λh=>?_)
 .refine ldR (i.cell 0) ?_;refine Xo (i.cell 0) (i.frozen 0) ?_;refine ρ ?_;exact Yt ⟨b,a,_,rfl,.inr ⟨rfl,rfl⟩,u.box i rfl hg _,i.set 0 _⟩
 refine ρ ?_;exact Yt ⟨a,b,_,rfl,.inl ⟨rfl,rfl⟩,u,i⟩
theorem Qxs(H:DP w0 w base A n c ps q)(hmx:n<=140737488355328)(hC:CF w0 (Value.slice A n c).ownBlock fid first cap ps ds)(hB:Blk w g 3 [.int .i64 s])(hg:w0.heap.size<=g)(ha:a<n)(hb:b<n)(he:e<n):
  Ret prog 235 [.slice A n c,.int .i64 (a:Int),.int .i64 (b:Int),.int .i64 (e:Int),.pointer (some ⟨g,0,none⟩),.func (.func fid) first cap] w λr w'=>∃ m:Nat,∃ s':Int,r=.int .i64 (m:Int)/\(m=a∨m=b∨m=e)/\DP w0 w' base A n c ps q/\Blk w' g 3 [.int .i64 s']:=by
 refine enE func235 ntmps235 ?_;refine clR (Jhw H hmx hC hB hg ha hb) ?_;rintro r w1 ⟨G,D,s1,rfl,e1,Z,o⟩;refine clR (Jhw (a:=D) (b:=e) Z hmx hC o hg om he) ?_;rintro r w2 ⟨C,e2,s2,rfl,e3,O,j⟩;refine clR (Jhw (a:=G) (b:=C) O hmx hC j hg om om) ?_;rintro r w3 ⟨a3,u,s3,rfl,e4,J,i⟩;refine ρ ?_;exact Jj ⟨u,_,rfl,om,J,i⟩
theorem Jlg(H:DP w0 w base A n c ps q)(hmx:n<=140737488355328)(hC:CF w0 (Value.slice A n c).ownBlock fid first cap ps ds)(hB:Blk w g 3 [.int .i64 s])(hg:w0.heap.size<=g)(hai:ai=(a:Int))(ha:0<a)(hb:a+1<n):
  Ret prog 234 [.slice A n c,.int .i64 ai,.pointer (some ⟨g,0,none⟩),.func (.func fid) first cap] w λr w'=>∃ m:Nat,∃ s':Int,r=.int .i64 (m:Int)/\(m=a∨m+1=a∨m=a+1)/\DP w0 w' base A n c ps q/\Blk w' g 3 [.int .i64 s']:=by
 subst hai;refine enE func234 ntmps234 ?_;refine ρ ?_;have o:a-1<n:=om
 have j:((a:Int)-1)=((a-1:Nat):Int):=om
 have u:((a:Int)+1)=((a+1:Nat):Int):=om
 rw[j,u];refine cl (Qxs H hmx hC hB hg o (by omega:a<n) hb) ?_;rintro r D ⟨m,G,rfl,j,C,i⟩;refine ρ ?_;exact Jj ⟨m,_,rfl,om,C,i⟩
theorem Xvs(hD:Dat w base (.slice A n c) ps)(hn:ps.length=n)(hmx:n<=140737488355328)(hC:CF w (Value.slice A n c).ownBlock fid first cap ps ds)(hai:ai=(a:Int))(hbi:bi=(b:Int))(hab:a+12<b)(hb:b<=n):
  Ret prog 216 [.slice A n c,.int .i64 ai,.int .i64 bi,.func (.func fid) first cap] w λr w'=>∃ m:Nat,∃ z:Int,r=.tuple #[.int .i64 (m:Int),.int .i64 z]/\a<=m/\m<b/\DP w w' base A n c ps ps:=by
 subst hai;subst hbi;refine enE func216 ntmps216 ?_;refine Jw zInt ?_;intro w1 g u o hB;have H1:=(DP.start hD hn).ext u;refine ρ ?_;refine qn (b-a) 4 ?_;refine ρ ?_;refine qn (b-a) 4 ?_;refine ρ ?_;refine qn (b-a) 4 ?_;refine ctR ?_ ?_
 .exact decide_eq_true om
 have hq:(b-a) / 4<=(b-a)/\3<=(b-a) / 4/\4*((b-a) / 4)<=b-a:=om
 generalize (b-a) / 4=l4 at hq ⊢
 refine ρ ?_;refine Jrk (fun (i j k:Nat)=>[(0,.slice A n c),(3,.func (.func fid) first cap),(11,.pointer (some ⟨g,0,none⟩)),(12,.int .i64 (i:Int)),(13,.int .i64 (j:Int)),(14,.int .i64 (k:Int))])
  (λi j k w'=>DP w w' base A n c ps ps/\(∃ s:Int,Blk w' g 3 [.int .i64 s])/\a<=i/\i<b/\a<=j/\j<b/\a<=k/\k<b) ?_ ?_
 .refine ci (λh=>?_) (λh=>?_)
  .have a1:=oT h;refine clR (Jlg (a:=a+l4) (ai:=(a:Int)+(l4:Int)*1) H1 hmx hC hB o om om om) ?_;rintro r w2 ⟨i,s2,rfl,e2,H2,O⟩;refine clR (Jlg (a:=a+l4*2) (ai:=(a:Int)+(l4:Int)*2) H2 hmx hC O o om om om) ?_;rintro r w3 ⟨j,s3,rfl,e3,H3,J⟩;refine clR (Jlg (a:=a+l4*3) (ai:=(a:Int)+(l4:Int)*3) H3 hmx hC J o om om om) ?_;rintro r w4 ⟨k,s4,rfl,e4,H4,G⟩;refine ρ ?_;exact Jbs i j k sB ⟨H4,⟨_,G⟩,om,om,om,om,om,om⟩
  refine ρ ?_;exact Jbs (a+l4) (a+l4*2) (a+l4*3) sO ⟨H1,⟨_,hB⟩,om,om,om,om,om,om⟩
 rintro i j k w5 ⟨H5,⟨s5,D⟩,h1,h2,h3,h4,h5,h6⟩;refine clR (Qxs H5 hmx hC D o (by omega:i<n) (by omega:j<n) (by omega:k<n)) ?_;rintro r w6 ⟨m,s6,rfl,e6,Z,C⟩;refine ldR (C.cell 0) ?_;refine ciR (λh=>?_) (λh=>?_)
 .refine ρ ?_;exact Yt ⟨m,_,rfl,om,om,Z⟩
 refine ciR (λh=>?_) (λh=>?_)
 .refine ρ ?_;exact Yt ⟨m,_,rfl,om,om,Z⟩
 refine ρ ?_;exact Yt ⟨m,_,rfl,om,om,Z⟩
open Go.RowKit Pl Go.Wk _root_.Go.Proofs.Tryz
variable {ai bi mi r:Int}{ps q:List Pr}{a b base c g m n:Nat}{A:Option Addr}{w w0:World}
theorem Qcd(op:BinOp)(x y:Int): 0<=bits op .u64 x y/\bits op .u64 x y<=18446744073709551615:=by
 unfold bits;rw[IntKind.wrap_u64];omega
theorem Qfk(H:DP w0 w base A n c ps q)(hB:Blk w g 325 [.int .u64 r])(hg:w0.heap.size<=g):
  Ret prog 233 [.pointer (some ⟨g,0,none⟩)] w λv w'=>∃ r',v=.int .u64 r'/\0<=r'/\r'<=18446744073709551615/\DP w0 w' base A n c ps q/\Blk w' g 325 [.int .u64 r']:=by
 refine enE func233 ntmps233 ?_;refine drR (scq 10 [109]) ?_;have b0:=hB.ext (Ext.refl _).drew;have h0:=H.drew;refine Jz (b0.cell 0) ?_;refine Jz (b0.cell 0) ?_;refine ρd ?_;refine dshl ?_;refine ρd ?_;obtain⟨D,Z⟩:∃ z,z=bits .xor .u64 r (IntKind.u64.wrap (r*2^min (13:Int).toNat IntKind.u64.bits)):=⟨_,rfl⟩;refine dkv 10 (u:=.int .u64 D) (congrArg (Value.int .u64) Z.symm) ?_;refine Qv ?_;refine sto (b0.cell 0) (b0.frozen 0) ?_;refine ρ ?_;have H1:=h0.box b0 rfl hg (.int .u64 D);have a2:=b0.set 0 (.int .u64 D);refine dr (scq 10 [109]) kr ?_;have o:=a2.ext (Ext.refl _).drew;have h1:=H1.drew;refine Jz (o.cell 0) ?_;refine Jz (o.cell 0) ?_;refine ρd ?_;refine dshr ?_;refine ρd ?_;obtain⟨C,O⟩:∃ z,z=bits .xor .u64 D (D.fdiv (2^min (7:Int).toNat IntKind.u64.bits)):=⟨_,rfl⟩;refine dkv 19 (u:=.int .u64 C) (congrArg (Value.int .u64) O.symm) ?_;refine Qv ?_;refine sto (o.cell 0) (o.frozen 0) ?_
 refine ρ ?_;have H2:=h1.box o rfl hg (.int .u64 C);have a1:=o.set 0 (.int .u64 C);refine dr (scq 10 [109]) kr ?_;have j:=a1.ext (Ext.refl _).drew;have h2:=H2.drew;refine Jz (j.cell 0) ?_;refine Jz (j.cell 0) ?_;refine ρd ?_;refine dshl ?_;refine ρd ?_;obtain⟨J,i⟩:∃ z,z=bits .xor .u64 C (IntKind.u64.wrap (C*2^min (17:Int).toNat IntKind.u64.bits)):=⟨_,rfl⟩;refine dkv 28 (u:=.int .u64 J) (congrArg (Value.int .u64) i.symm) ?_;refine Qv ?_;refine sto (j.cell 0) (j.frozen 0) ?_;refine ρ ?_;have H3:=h2.box j rfl hg (.int .u64 J);have G:=j.set 0 (.int .u64 J);refine ld (G.cell 0) ?_;refine ρ ?_;exact Jj ⟨J,rfl,by rw[i];exact(Qcd _ _ _).1,by rw[i];exact(Qcd _ _ _).2,H3,G⟩
theorem Qtt(hmi:mi=(m:Int))(h0:0<m)(hm:m<=140737488355328)(w:World): Ret prog 232 [.int .i64 mi] w λv w'=>∃ p:Nat,v=.int .u64 (p:Int)/\0<p/\p<=2*m/\w'=w:=by
 subst hmi;refine enE func232 ntmps232 ?_;refine ρ ?_;refine kv 4 (u:=.int .u64 (m:Int)) (congrArg (Value.int .u64) (Kh om)) ?_;refine cl (Qcf m om w) ?_;rintro v w' ⟨rfl,rfl⟩;refine ρ ?_;refine Jxd rfl rfl om rfl ?_;obtain⟨D,C⟩:=Jll (x:=m) om;have o:Js m<=48:=Gl om;have j:2^Js m=2*2^(Js m-1):=by rw[<-Nat.pow_succ'];congr 1;omega
 have e:IntKind.u64.wrap (1*2^min ((Js m:Nat):Int).toNat IntKind.u64.bits)=((2^Js m:Nat):Int):=by
  have i:min ((Js m:Nat):Int).toNat IntKind.u64.bits=Js m:=by simp only[Int.toNat_natCast];exact Nat.min_eq_left (by show Js m<=64;omega)
  rw[i,Int.one_mul];have:((2^Js m:Nat):Int)=(2:Int)^Js m:=by push_cast;rfl
  rw[<-this];exact Kh om
 refine kv 6 (congrArg (Value.int .u64) e) ?_;refine ρ ?_;exact Jj ⟨2^Js m,rfl,Nat.pow_pos om,om,rfl⟩
theorem Xyj{fid:FuncId}{first cap:Array Value}{ds:List Bool}(hD:Dat w base (.slice A n c) ps)(hn:ps.length=n)(hmx:n<=140737488355328)(hC:CF w (Value.slice A n c).ownBlock fid first cap ps ds)(hai:ai=(a:Int))(hbi:bi=(b:Int))(hab:a+12<b)(hb:b<=n):
  Ret prog 215 [.slice A n c,.int .i64 ai,.int .i64 bi,.func (.func fid) first cap] w λv w'=>∃ ps',DP w w' base A n c ps ps':=by
 subst hai;subst hbi;refine enE func215 ntmps215 ?_;refine ctR ?_ ?_
 .exact decide_eq_true om
 refine Jw zXor ?_;intro w1 g Z hg J;have H1:=(DP.start hD hn).ext Z;refine Xo (J.cell 0) (J.frozen 0) ?_;have H2:=H1.box J rfl hg (.int .u64 (IntKind.u64.wrap ((b:Int)-(a:Int))));have a6:=J.set 0 (.int .u64 (IntKind.u64.wrap ((b:Int)-(a:Int))));refine clR (Qtt (m:=b-a) (mi:=(b:Int)-(a:Int)) om om om _) ?_;rintro v w' ⟨j,rfl,ab,aa,rfl⟩;refine ρ ?_;refine qn (b-a) 4 ?_;refine ρ ?_;have hq:(b-a) / 4<=(b-a)/\3<=(b-a) / 4/\4*((b-a) / 4)<=b-a:=om
 refine Jo (fun (idx:Nat) (q:List Pr)=>[(0,.slice A n c),(1,.int .i64 (a:Int)),(8,.int .i64 ((b:Int)-(a:Int))),(9,.pointer (some ⟨g,0,none⟩)),(10,.int .u64 (j:Int)),(11,.int .i64 (idx:Int))])
  (λidx q w'=>DP w w' base A n c ps q/\(∃ r:Int,Blk w' g 325 [.int .u64 r])/\a<=idx/\idx<=n) (λidx _=>n-idx) (a+((b-a) / 4)*2-1) ps sO ⟨H2,⟨_,a6⟩,om,om⟩ ?_
 rintro idx q w3 ⟨H3,⟨r3,a5⟩,ad,hi⟩;refine ρ ?_;refine qn (b-a) 4 ?_;refine ciR (λh=>?_) (λh=>?_)
 .have a8:idx<=a+((b-a) / 4)*2+1:=by have:=oT h;omega
  refine clR (Qfk H3 a5 hg) ?_;rintro v w4 ⟨O,rfl,a1,a9,H4,G⟩;refine ρ ?_;have ho:∃ o:Nat,bits .and .u64 O (IntKind.u64.wrap ((j:Int)-1))=(o:Int)/\o<2*(b-a):=by
   obtain⟨r,rfl⟩:=Int.eq_ofNat_of_zero_le a1;have e:IntKind.u64.wrap ((j:Int)-1)=((j-1:Nat):Int):=by rw[Kh om];omega
   rw[e];refine⟨r &&& (j-1),bits_and_u64_nat r (j-1) om om,?_⟩;have:=Nat.and_le_right (n:=r) (m:=j-1);omega
  obtain⟨o,a2,ac⟩:=ho;refine Zc (fun (o:Nat)=>[(0,.slice A n c),(1,.int .i64 (a:Int)),(8,.int .i64 ((b:Int)-(a:Int))),(9,.pointer (some ⟨g,0,none⟩)),(10,.int .u64 (j:Int)),(11,.int .i64 (idx:Int)),(12,.int .i64 (o:Int))]) (λo w'=>DP w w' base A n c ps q/\Blk w' g 325 [.int .u64 O]/\o<b-a) ?_ ?_
  .have a7:IntKind.i64.wrap (bits .and .u64 O (IntKind.u64.wrap ((j:Int)-1)))=(o:Int):=by rw[a2];exact Jjg om
   rw[a7];refine ci (λh=>?_) (λh=>?_)
   .have h1:=oT h;refine ρ ?_;exact Jc (o-(b-a)) sO ⟨H4,G,om⟩
   have h1:=oF h;refine ρ ?_;exact Jc o sB ⟨H4,G,om⟩
  rintro o w5 ⟨H5,a4,ho⟩;have C:idx<n:=om
  have D:a+o<n:=om
  refine ρ ?_;refine drC 4 [0,1,2,3,4,5,6,7,8,9,12,13] [(0,10),(0,11),(0,14),(0,15),(0,16),(2,17),(2,18),(2,19)] kr ?_;have i:=H5.drew;obtain⟨s1,s2,s3,⟨u,s4⟩,s5,s6⟩:=i.swap C D;refine ρp ?_;refine dix (a+o) i.rd D ?_;refine Jz (i.cell D) ?_;refine Jd (idx) i.rd C ?_;refine Jz (i.cell C) ?_;refine Jd (idx) i.rd C ?_;refine ρd ?_;refine Qv ?_;refine sto (i.cell C) s1 ?_ (hv:=i.one D);refine ρ ?_;refine Xz ?_;refine Qv ?_;refine ix (a+o) s2 D ?_;refine ρ ?_;refine Xz ?_;refine Qv ?_;refine sto s4 s3 ?_ (hv:=i.one C);refine ρ ?_;have b5:=a4.ext (Ext.refl _).drew;have a3:=b5.grown s6 (b5.ne_own i.d.1 rfl);exact Jf (idx+1) (swp z0 q idx (a+o)) sO ⟨s5,⟨_,a3⟩,om,om⟩ om
 refine ρ ?_;exact Kc ⟨q,H3⟩
open Go.RowKit Pl Go.Wk _root_.Go.Proofs.Tryz
variable {cap first:Array Value}{fid:FuncId}{ai bi pvi:Int}{ds:List Bool}{ps:List Pr}{a b base c n:Nat}{A:Option Addr}{w:World}
theorem Qsg(hD:Dat w base (.slice A n c) ps)(hn:ps.length=n)(hmx:n<=140737488355328)(hC:CF w (Value.slice A n c).ownBlock fid first cap ps ds){pv:Nat}(hai:ai=(a:Int))(hbi:bi=(b:Int))(hpvi:pvi=(pv:Int))(hab:a<b)(hb:b<=n)(hp0:a<=pv)(hp1:pv<b):
  Ret prog 219 [.slice A n c,.int .i64 ai,.int .i64 bi,.int .i64 pvi,.func (.func fid) first cap] w λv w'=>∃ ps',DP w w' base A n c ps ps'/\∃ m:Nat,v=.int .i64 (m:Int)/\a<m/\m<=b:=by
 subst hai;subst hbi;subst hpvi;refine enE func219 ntmps219 ?_;refine ρ ?_;have H:=DP.start hD hn;have la:a<n:=om
 have lp:pv<n:=om
 refine drC 4 [0,1,2,3,4,5,8,9] [(0,6),(0,7),(0,10),(0,11),(0,12),(2,13),(2,14),(2,15)] kr ?_;have J:=H.drew;obtain⟨s1,s2,s3,⟨u,s4⟩,s5,s6⟩:=J.swap la lp;refine ρp ?_;refine dix (pv) J.rd lp ?_;refine Jz (J.cell lp) ?_;refine Jd (a) J.rd la ?_;refine Jz (J.cell la) ?_;refine Jd (a) J.rd la ?_;refine ρd ?_;refine Qv ?_;refine sto (J.cell la) s1 ?_ (hv:=J.one lp);refine ρ ?_;refine Xz ?_;refine Qv ?_;refine ix (pv) s2 lp ?_;refine ρ ?_;refine Xz ?_;refine Qv ?_;refine sto s4 s3 ?_ (hv:=J.one la);refine ρ ?_;refine Zj (fun (i j:Nat) (q:List Pr)=>[(0,.slice A n c),(1,.int .i64 (a:Int)),(2,.int .i64 (b:Int)),(4,.func (.func fid) first cap),(11,.int .i64 (i:Int)),(12,.int .i64 (j:Int))]) (λi j q w'=>DP w w' base A n c ps q/\a<i/\i<=b/\a<=j/\j<b) (λi j _=>b+j-i) (a+1) (b-1) _ sO ⟨s5,om⟩ ?_;clear s1 s2 s3 s4 s5 s6 u J H;rintro i0 j0 q w1 ⟨H,a6⟩;refine ρ ?_
 refine Qs (fun (i:Nat)=>[(0,.slice A n c),(1,.int .i64 (a:Int)),(2,.int .i64 (b:Int)),(4,.func (.func fid) first cap),(12,.int .i64 (j0:Int)),(11,.int .i64 (i:Int))]) (λi w'=>DP w w' base A n c ps q/\i0<=i/\a<i/\i<=b) (λi=>b-i) i0 sO ⟨H,om⟩ ?_;rintro i wS ⟨HS,a8⟩;refine ρ ?_;refine Zc (fun (t:Bool)=>[(0,.slice A n c),(1,.int .i64 (a:Int)),(2,.int .i64 (b:Int)),(4,.func (.func fid) first cap),(12,.int .i64 (j0:Int)),(11,.int .i64 (i:Int)),(47,.bool t)]) (λt w'=>DP w w' base A n c ps q/\(t=true->i<=j0)) ?_ ?_
 .skip
  refine dr (scq 17 [13]) kr ?_;have o:=HS.drew;refine ρd ?_;refine dki 34 (λh=>?_) (λh=>?_)
  .have hT:i<=j0:=by have:=oT h;omega
   have Z:a<n:=om
   have O:i<n:=om
   refine Jd (a) o.rd Z ?_;refine Jz (o.cell Z) ?_;refine Jd (i) o.rd O ?_;refine Jz (o.cell O) ?_;refine ρd ?_;refine Yy (hC.call o Z O) ?_;rintro r a4 ⟨a5,rfl,D⟩;refine⟨D,?_⟩;have HT:=o.ext D;refine ρd ?_;refine ρ ?_;exact Jc _ sB ⟨HT,λ_=>hT⟩
  refine ρd ?_;refine ρ ?_;exact Jc false sB ⟨o,λe=>by cases e⟩
 rintro t a3 ⟨a2,G⟩;refine ci (λh=>?_) (λh=>?_)
 .have:=G h;refine ρ ?_;exact Qm (i+1) sO ⟨a2,om⟩ om
 clear G HS h;refine ρ ?_;refine Qs (fun (j:Nat)=>[(0,.slice A n c),(1,.int .i64 (a:Int)),(2,.int .i64 (b:Int)),(4,.func (.func fid) first cap),(11,.int .i64 (i:Int)),(12,.int .i64 (j:Int))]) (λj w'=>DP w w' base A n c ps q/\j<=j0/\a<=j/\j<b) (λj=>j) j0 sO ⟨a2,om⟩ ?_;rintro j wS ⟨HS,a7⟩;refine ρ ?_;refine Zc (fun (t:Bool)=>[(0,.slice A n c),(1,.int .i64 (a:Int)),(2,.int .i64 (b:Int)),(4,.func (.func fid) first cap),(11,.int .i64 (i:Int)),(12,.int .i64 (j:Int)),(65,.bool t)]) (λt w'=>DP w w' base A n c ps q/\(t=true->i<=j)) ?_ ?_
 .skip
  refine dr (scq 16 [13]) kr ?_;have o:=HS.drew;refine ρd ?_;refine dki 53 (λh=>?_) (λh=>?_)
  .have hT:i<=j:=by have:=oT h;omega
   have Z:a<n:=om
   have O:j<n:=om
   refine Jd (a) o.rd Z ?_;refine Jz (o.cell Z) ?_;refine Jd (j) o.rd O ?_;refine Jz (o.cell O) ?_;refine ρd ?_;refine Yy (hC.call o Z O) ?_;rintro r a4 ⟨a5,rfl,D⟩;refine⟨D,?_⟩;have HT:=o.ext D;refine ρd ?_;refine ρ ?_;exact Jc _ sB ⟨HT,λ_=>hT⟩
  refine ρd ?_;refine ρ ?_;exact Jc false sB ⟨o,λe=>by cases e⟩
 rintro t a3 ⟨a1,G⟩;refine ci (λh=>?_) (λh=>?_)
 .have:=G h;refine ρ ?_;exact Qm (j-1) sO ⟨a1,om⟩ om
 clear G HS h;refine ciR (λh=>?_) (λh=>?_)
 .refine ρ ?_;exact Jj ⟨q,a1,i,rfl,om,om⟩
 have hT:i<=j:=by have:=oF h;omega
 have li:i<n:=om
 have lj:j<n:=om
 refine ρ ?_;refine drC 4 [0,1,2,3,4,5,8,9] [(0,6),(0,7),(0,10),(0,11),(0,12),(2,13),(2,14),(2,15)] kr ?_;have C:=a1.drew;obtain⟨s1,s2,s3,⟨u,s4⟩,s5,s6⟩:=C.swap li lj;refine ρp ?_;refine dix (j) C.rd lj ?_;refine Jz (C.cell lj) ?_;refine Jd (i) C.rd li ?_;refine Jz (C.cell li) ?_;refine Jd (i) C.rd li ?_;refine ρd ?_;refine Qv ?_;refine sto (C.cell li) s1 ?_ (hv:=C.one lj);refine ρ ?_;refine Xz ?_;refine Qv ?_;refine ix (j) s2 lj ?_;refine ρ ?_;refine Xz ?_;refine Qv ?_;refine sto s4 s3 ?_ (hv:=C.one li);refine ρ ?_;exact Qe (i+1) (j-1) _ sO ⟨s5,om⟩ om
theorem Qsf(hD:Dat w base (.slice A n c) ps)(hn:ps.length=n)(hmx:n<=140737488355328)(hC:CF w (Value.slice A n c).ownBlock fid first cap ps ds){pv:Nat}(hai:ai=(a:Int))(hbi:bi=(b:Int))(hpvi:pvi=(pv:Int))(hab:a<b)(hb:b<=n)(hp0:a<=pv)(hp1:pv<b):
  Ret prog 220 [.slice A n c,.int .i64 ai,.int .i64 bi,.int .i64 pvi,.func (.func fid) first cap] w λv w'=>∃ ps',DP w w' base A n c ps ps'/\∃(m:Nat) (t:Bool),v=.tuple #[.int .i64 (m:Int),.bool t]/\a<=m/\m<b:=by
 subst hai;subst hbi;subst hpvi;refine enE func220 ntmps220 ?_;refine ρ ?_;have H:=DP.start hD hn;have la:a<n:=om
 have lp:pv<n:=om
 refine drC 4 [0,1,2,3,4,5,8,9] [(0,6),(0,7),(0,10),(0,11),(0,12),(2,13),(2,14),(2,15)] kr ?_;have Hd:=H.drew;obtain⟨s1,s2,s3,⟨u,s4⟩,s5,s6⟩:=Hd.swap la lp;refine ρp ?_;refine dix (pv) Hd.rd lp ?_;refine Jz (Hd.cell lp) ?_;refine Jd (a) Hd.rd la ?_;refine Jz (Hd.cell la) ?_;refine Jd (a) Hd.rd la ?_;refine ρd ?_;refine Qv ?_;refine sto (Hd.cell la) s1 ?_ (hv:=Hd.one lp);refine ρ ?_;refine Xz ?_;refine Qv ?_;refine ix (pv) s2 lp ?_;refine ρ ?_;refine Xz ?_;refine Qv ?_;refine sto s4 s3 ?_ (hv:=Hd.one la);refine ρ ?_;generalize hq:swp z0 ps a pv=q at s5
 have H5:=s5;clear s1 s2 s3 s4 s5 s6 u Hd H hq;obtain⟨i0,a8⟩:∃ i0:Nat,i0=a+1:=⟨_,rfl⟩;obtain⟨j0,a7⟩:∃ j0:Nat,j0=b-1:=⟨_,rfl⟩;refine Qs (fun (i:Nat)=>[(0,.slice A n c),(1,.int .i64 (a:Int)),(2,.int .i64 (b:Int)),(4,.func (.func fid) first cap),(13,.int .i64 (j0:Int)),(12,.int .i64 (i:Int))]) (λi w'=>DP w w' base A n c ps q/\i0<=i/\a<i/\i<=b) (λi=>b-i) i0 sO ⟨H5,om⟩ ?_;rintro i wS ⟨HS,a6⟩;refine ρ ?_;refine Zc (fun (t:Bool)=>[(0,.slice A n c),(1,.int .i64 (a:Int)),(2,.int .i64 (b:Int)),(4,.func (.func fid) first cap),(13,.int .i64 (j0:Int)),(12,.int .i64 (i:Int)),(47,.bool t)]) (λt w'=>DP w w' base A n c ps q/\(t=true->i<=j0)) ?_ ?_
 .skip
  refine dr (scq 16 [13]) kr ?_;have C:=HS.drew;refine ρd ?_;refine dki 35 (λh=>?_) (λh=>?_)
  .have hT:i<=j0:=by have:=oT h;omega
   have lx:i<n:=om
   have ly:a<n:=om
   refine Jd (i) C.rd lx ?_;refine Jz (C.cell lx) ?_;refine Jd (a) C.rd ly ?_;refine Jz (C.cell ly) ?_;refine ρd ?_;refine Yy (hC.call C lx ly) ?_;rintro r a3 ⟨a4,rfl,D⟩;refine⟨D,?_⟩;have HT:=C.ext D;refine ρd ?_;refine ρ ?_;exact Jc _ sB ⟨HT,λ_=>hT⟩
  refine ρd ?_;refine ρ ?_;exact Jc false sB ⟨C,λe=>by cases e⟩
 rintro t a2 ⟨a1,O⟩;refine ci (λh=>?_) (λh=>?_)
 .have:=O h;refine ρ ?_;exact Qm (i+1) sO ⟨a1,om⟩ om
 clear O HS h;refine ρ ?_;refine Qs (fun (j:Nat)=>[(0,.slice A n c),(1,.int .i64 (a:Int)),(2,.int .i64 (b:Int)),(4,.func (.func fid) first cap),(12,.int .i64 (i:Int)),(13,.int .i64 (j:Int))]) (λj w'=>DP w w' base A n c ps q/\j<=j0/\a<=j/\j<b) (λj=>j) j0 sO ⟨a1,om⟩ ?_;rintro j wS ⟨HS,a5⟩;refine ρ ?_;refine Zc (fun (t:Bool)=>[(0,.slice A n c),(1,.int .i64 (a:Int)),(2,.int .i64 (b:Int)),(4,.func (.func fid) first cap),(12,.int .i64 (i:Int)),(13,.int .i64 (j:Int)),(66,.bool t)]) (λt w'=>DP w w' base A n c ps q/\(t=true->i<=j)) ?_ ?_
 .skip
  refine dr (scq 17 [13]) kr ?_;have C:=HS.drew;refine ρd ?_;refine dki 53 (λh=>?_) (λh=>?_)
  .have hT:i<=j:=by have:=oT h;omega
   have lx:j<n:=om
   have ly:a<n:=om
   refine Jd (j) C.rd lx ?_;refine Jz (C.cell lx) ?_;refine Jd (a) C.rd ly ?_;refine Jz (C.cell ly) ?_;refine ρd ?_;refine Yy (hC.call C lx ly) ?_;rintro r a3 ⟨a4,rfl,D⟩;refine⟨D,?_⟩;have HT:=C.ext D;refine ρd ?_;refine ρ ?_;exact Jc _ sB ⟨HT,λ_=>hT⟩
  refine ρd ?_;refine ρ ?_;exact Jc false sB ⟨C,λe=>by cases e⟩
 rintro t a2 ⟨Z,O⟩;refine ci (λh=>?_) (λh=>?_)
 .have:=O h;refine ρ ?_;exact Qm (j-1) sO ⟨Z,om⟩ om
 clear O HS h;refine ρ ?_;have G:a<n:=om
 have J:j<n:=om
 refine ci (λh=>?_) (λh=>?_)
 .refine ρ ?_;refine drC 4 [0,1,2,3,4,5,8,9] [(0,6),(0,7),(0,10),(0,11),(0,12),(2,13),(2,14),(2,15)] kr ?_;have o:=Z.drew;obtain⟨s1,s2,s3,⟨u,s4⟩,s5,s6⟩:=o.swap J G;refine ρp ?_;refine dix (a) o.rd G ?_;refine Jz (o.cell G) ?_;refine Jd (j) o.rd J ?_;refine Jz (o.cell J) ?_;refine Jd (j) o.rd J ?_;refine ρd ?_;refine Qv ?_;refine sto (o.cell J) s1 ?_ (hv:=o.one G);refine ρ ?_;refine Xz ?_;refine Qv ?_;refine ix (a) s2 G ?_;refine ρ ?_;refine Xz ?_;refine Qv ?_;refine sto s4 s3 ?_ (hv:=o.one J);refine ρ ?_;exact Yt ⟨_,s5,j,true,rfl,om,om⟩
 have hT:i<=j:=by have:=oF h;omega
 have li:i<n:=om
 refine ρ ?_;refine drC 4 [0,1,2,3,4,5,8,9] [(0,6),(0,7),(0,10),(0,11),(0,12),(2,13),(2,14),(2,15)] kr ?_;have o:=Z.drew;obtain⟨s1,s2,s3,⟨u,s4⟩,s5,s6⟩:=o.swap li J;refine ρp ?_;refine dix (j) o.rd J ?_;refine Jz (o.cell J) ?_;refine Jd (i) o.rd li ?_;refine Jz (o.cell li) ?_;refine Jd (i) o.rd li ?_;refine ρd ?_;refine Qv ?_;refine sto (o.cell li) s1 ?_ (hv:=o.one J);refine ρ ?_;refine Xz ?_;refine Qv ?_;refine ix (j) s2 J ?_;refine ρ ?_;refine Xz ?_;refine Qv ?_;refine sto s4 s3 ?_ (hv:=o.one li);refine ρ ?_;refine Zj (fun (i j:Nat) (q:List Pr)=>[(0,.slice A n c),(1,.int .i64 (a:Int)),(2,.int .i64 (b:Int)),(4,.func (.func fid) first cap),(12,.int .i64 (i:Int)),(13,.int .i64 (j:Int))]) (λi j q w'=>DP w w' base A n c ps q/\a<i/\i<=b/\a<=j/\j<b) (λi j _=>b+j-i) (i+1) (j-1) _ sO ⟨s5,om⟩ ?_;clear s1 s2 s3 s4 s5 s6 u o Z a1 a6 a5 a8 a7 G J li hT;clear h q i0 j0 i j H5
 rintro i0 j0 q w1 ⟨H,a9⟩;refine ρ ?_;refine Qs (fun (i:Nat)=>[(0,.slice A n c),(1,.int .i64 (a:Int)),(2,.int .i64 (b:Int)),(4,.func (.func fid) first cap),(13,.int .i64 (j0:Int)),(12,.int .i64 (i:Int))]) (λi w'=>DP w w' base A n c ps q/\i0<=i/\a<i/\i<=b) (λi=>b-i) i0 sO ⟨H,om⟩ ?_;rintro i wS ⟨HS,a6⟩;refine ρ ?_;refine Zc (fun (t:Bool)=>[(0,.slice A n c),(1,.int .i64 (a:Int)),(2,.int .i64 (b:Int)),(4,.func (.func fid) first cap),(13,.int .i64 (j0:Int)),(12,.int .i64 (i:Int)),(120,.bool t)]) (λt w'=>DP w w' base A n c ps q/\(t=true->i<=j0)) ?_ ?_
 .skip
  refine dr (scq 16 [13]) kr ?_;have C:=HS.drew;refine ρd ?_;refine dki 108 (λh=>?_) (λh=>?_)
  .have hT:i<=j0:=by have:=oT h;omega
   have lx:i<n:=om
   have ly:a<n:=om
   refine Jd (i) C.rd lx ?_;refine Jz (C.cell lx) ?_;refine Jd (a) C.rd ly ?_;refine Jz (C.cell ly) ?_;refine ρd ?_;refine Yy (hC.call C lx ly) ?_;rintro r a3 ⟨a4,rfl,D⟩;refine⟨D,?_⟩;have HT:=C.ext D;refine ρd ?_;refine ρ ?_;exact Jc _ sB ⟨HT,λ_=>hT⟩
  refine ρd ?_;refine ρ ?_;exact Jc false sB ⟨C,λe=>by cases e⟩
 rintro t a2 ⟨a1,O⟩;refine ci (λh=>?_) (λh=>?_)
 .have:=O h;refine ρ ?_;exact Qm (i+1) sO ⟨a1,om⟩ om
 clear O HS h;refine ρ ?_;refine Qs (fun (j:Nat)=>[(0,.slice A n c),(1,.int .i64 (a:Int)),(2,.int .i64 (b:Int)),(4,.func (.func fid) first cap),(12,.int .i64 (i:Int)),(13,.int .i64 (j:Int))]) (λj w'=>DP w w' base A n c ps q/\j<=j0/\a<=j/\j<b) (λj=>j) j0 sO ⟨a1,om⟩ ?_;rintro j wS ⟨HS,a5⟩;refine ρ ?_;refine Zc (fun (t:Bool)=>[(0,.slice A n c),(1,.int .i64 (a:Int)),(2,.int .i64 (b:Int)),(4,.func (.func fid) first cap),(12,.int .i64 (i:Int)),(13,.int .i64 (j:Int)),(139,.bool t)]) (λt w'=>DP w w' base A n c ps q/\(t=true->i<=j)) ?_ ?_
 .skip
  refine dr (scq 17 [13]) kr ?_;have C:=HS.drew;refine ρd ?_;refine dki 126 (λh=>?_) (λh=>?_)
  .have hT:i<=j:=by have:=oT h;omega
   have lx:j<n:=om
   have ly:a<n:=om
   refine Jd (j) C.rd lx ?_;refine Jz (C.cell lx) ?_;refine Jd (a) C.rd ly ?_;refine Jz (C.cell ly) ?_;refine ρd ?_;refine Yy (hC.call C lx ly) ?_;rintro r a3 ⟨a4,rfl,D⟩;refine⟨D,?_⟩;have HT:=C.ext D;refine ρd ?_;refine ρ ?_;exact Jc _ sB ⟨HT,λ_=>hT⟩
  refine ρd ?_;refine ρ ?_;exact Jc false sB ⟨C,λe=>by cases e⟩
 rintro t a2 ⟨Z,O⟩;refine ci (λh=>?_) (λh=>?_)
 .have:=O h;refine ρ ?_;exact Qm (j-1) sO ⟨Z,om⟩ om
 clear O HS h;refine ρ ?_;have G:a<n:=om
 have J:j<n:=om
 refine ci (λh=>?_) (λh=>?_)
 .refine ρ ?_;refine drC 4 [0,1,2,3,4,5,8,9] [(0,6),(0,7),(0,10),(0,11),(0,12),(2,13),(2,14),(2,15)] kr ?_;have o:=Z.drew;obtain⟨s1,s2,s3,⟨u,s4⟩,s5,s6⟩:=o.swap J G;refine ρp ?_;refine dix (a) o.rd G ?_;refine Jz (o.cell G) ?_;refine Jd (j) o.rd J ?_;refine Jz (o.cell J) ?_;refine Jd (j) o.rd J ?_;refine ρd ?_;refine Qv ?_;refine sto (o.cell J) s1 ?_ (hv:=o.one G);refine ρ ?_;refine Xz ?_;refine Qv ?_;refine ix (a) s2 G ?_;refine ρ ?_;refine Xz ?_;refine Qv ?_;refine sto s4 s3 ?_ (hv:=o.one J);refine ρ ?_;exact Yt ⟨_,s5,j,false,rfl,om,om⟩
 have hT:i<=j:=by have:=oF h;omega
 have li:i<n:=om
 refine ρ ?_;refine drC 4 [0,1,2,3,4,5,8,9] [(0,6),(0,7),(0,10),(0,11),(0,12),(2,13),(2,14),(2,15)] kr ?_;have o:=Z.drew;obtain⟨s1,s2,s3,⟨u,s4⟩,s5,s6⟩:=o.swap li J;refine ρp ?_;refine dix (j) o.rd J ?_;refine Jz (o.cell J) ?_;refine Jd (i) o.rd li ?_;refine Jz (o.cell li) ?_;refine Jd (i) o.rd li ?_;refine ρd ?_;refine Qv ?_;refine sto (o.cell li) s1 ?_ (hv:=o.one J);refine ρ ?_;refine Xz ?_;refine Qv ?_;refine ix (j) s2 J ?_;refine ρ ?_;refine Xz ?_;refine Qv ?_;refine sto s4 s3 ?_ (hv:=o.one li);refine ρ ?_;exact Qe (i+1) (j-1) _ sO ⟨s5,om⟩ om
theorem Qsd(hD:Dat w base (.slice A n c) ps)(hn:ps.length=n)(hmx:n<=140737488355328)(hC:CF w (Value.slice A n c).ownBlock fid first cap ps ds)(hai:ai=(a:Int))(hbi:bi=(b:Int))(hab:a+1<b)(hb:b<=n):
  Ret prog 218 [.slice A n c,.int .i64 ai,.int .i64 bi,.func (.func fid) first cap] w λv w'=>∃ ps',DP w w' base A n c ps ps'/\∃ t:Bool,v=.bool t:=by
 subst hai;subst hbi;refine enE func218 ntmps218 ?_;refine ρ ?_;refine Zj (fun (k i:Nat) (q:List Pr)=>[(0,.slice A n c),(1,.int .i64 (a:Int)),(2,.int .i64 (b:Int)),(3,.func (.func fid) first cap),(9,.int .i64 (i:Int)),(10,.int .i64 (k:Int))]) (λk i q w'=>DP w w' base A n c ps q/\a<i/\i<=b/\k<=5) (λk _ _=>5-k) 0 (a+1) ps sO ⟨DP.start hD hn,om⟩ ?_;rintro k i0 q w1 ⟨H,a5⟩;refine ciR (λh=>?_) (λh=>?_);rotate_left
 .refine ρ ?_;exact Jj ⟨q,H,false,rfl⟩
 have hk:k<5:=by have:=oT h;omega
 clear h;refine ρ ?_;refine Qs (fun (i:Nat)=>[(0,.slice A n c),(1,.int .i64 (a:Int)),(2,.int .i64 (b:Int)),(3,.func (.func fid) first cap),(10,.int .i64 (k:Int)),(9,.int .i64 (i:Int))]) (λi w'=>DP w w' base A n c ps q/\i0<=i/\a<i/\i<=b) (λi=>b-i) i0 sO ⟨H,om⟩ ?_;rintro i wS ⟨HS,a7⟩;refine ρ ?_;refine Zc (fun (t:Bool)=>[(0,.slice A n c),(1,.int .i64 (a:Int)),(2,.int .i64 (b:Int)),(3,.func (.func fid) first cap),(10,.int .i64 (k:Int)),(9,.int .i64 (i:Int)),(36,.bool t)]) (λt w'=>DP w w' base A n c ps q/\(t=true->i<b)) ?_ ?_
 .skip
  refine dr (scq 18 [14]) kr ?_;have G:=HS.drew;refine ρd ?_;refine dki 22 (λh=>?_) (λh=>?_)
  .have hT:i<b:=by have:=oT h;omega
   have Z:i<n:=om
   have ly:i-1<n:=om
   refine Jd (i) G.rd Z ?_;refine Jz (G.cell Z) ?_;refine Jd (i-1) G.rd ly ?_;refine Jz (G.cell ly) ?_;refine ρd ?_;refine Yy (hC.call G Z ly) ?_;rintro r a1 ⟨a3,rfl,C⟩;refine⟨C,?_⟩;have HT:=G.ext C;refine ρd ?_;refine ρ ?_;exact Jc _ sB ⟨HT,λ_=>hT⟩
  refine ρd ?_;refine ρ ?_;exact Jc false sB ⟨G,λe=>by cases e⟩
 rintro t a4 ⟨O,a2⟩;refine ci (λh=>?_) (λh=>?_)
 .have:=a2 h;refine ρ ?_;exact Qm (i+1) sO ⟨O,om⟩ om
 clear a2 HS h;refine ciR (λh=>?_) (λh=>?_)
 .refine ρ ?_;exact Jj ⟨q,O,true,rfl⟩
 have a6:i<b:=by have:=Zz h;omega
 clear h;refine ciR (λh=>?_) (λh=>?_)
 .refine ρ ?_;exact Jj ⟨q,O,false,rfl⟩
 clear h;have Z:i<n:=om
 have ly:i-1<n:=om
 refine ρ ?_;refine drC 4 [0,1,2,3,4,5,6,7,10,11] [(0,8),(0,9),(0,12),(0,13),(0,14),(2,15),(2,16),(2,17)] kr ?_;have o:=O.drew;obtain⟨s1,s2,s3,⟨u,s4⟩,s5,s6⟩:=o.swap Z ly;refine ρp ?_;refine dix (i-1) o.rd ly ?_;refine Jz (o.cell ly) ?_;refine Jd (i) o.rd Z ?_;refine Jz (o.cell Z) ?_;refine Jd (i) o.rd Z ?_;refine ρd ?_;refine Qv ?_;refine sto (o.cell Z) s1 ?_ (hv:=o.one ly);refine ρ ?_;refine Xz ?_;refine Qv ?_;refine ix (i-1) s2 ly ?_;refine ρ ?_;refine Xz ?_;refine Qv ?_;refine sto s4 s3 ?_ (hv:=o.one Z);refine ρ ?_;have H5:=s5;clear s1 s2 s3 s4 s5 s6 u o O H;generalize swp z0 q i (i-1)=q5 at H5
 refine Zc (fun (q:List Pr)=>[(0,.slice A n c),(1,.int .i64 (a:Int)),(2,.int .i64 (b:Int)),(3,.func (.func fid) first cap),(9,.int .i64 (i:Int)),(10,.int .i64 (k:Int))]) (λq w'=>DP w w' base A n c ps q) ?_ ?_
 .refine ci (λh=>?_) (λh=>?_);rotate_left
  .refine ρ ?_;exact Jc _ sB H5
  refine ρ ?_;refine Jo (fun (m:Nat) (q:List Pr)=>[(0,.slice A n c),(1,.int .i64 (a:Int)),(2,.int .i64 (b:Int)),(3,.func (.func fid) first cap),(9,.int .i64 (i:Int)),(10,.int .i64 (k:Int)),(11,.int .i64 (m:Int))]) (λm q w'=>DP w w' base A n c ps q/\m<n) (λm _=>m) (i-1) q5 sO ⟨H5,om⟩ ?_;rintro m q w2 ⟨H,hm⟩;refine ciR (λh=>?_) (λh=>?_);rotate_left
  .refine ρ ?_;exact Jc _ sB H
  have h1:1<=m:=by have:=oT h;omega
  have D:m-1<n:=om
  refine drR (scq 13 [10]) ?_;have J:=H.drew;refine ρd ?_;refine Jd (m) J.rd hm ?_;refine Jz (J.cell hm) ?_;refine Jd (m-1) J.rd D ?_;refine Jz (J.cell D) ?_;refine ρd ?_;refine Yy (hC.call J hm D) ?_;rintro r a1 ⟨a3,rfl,C⟩;refine⟨C,?_⟩;have HT:=J.ext C;refine ρd ?_;refine ciR (λh=>?_) (λh=>?_)
  .refine ρ ?_;exact Jc _ sB HT
  refine ρ ?_;refine drC 4 [0,1,2,3,4,5,6,7,10,11] [(0,8),(0,9),(0,12),(0,13),(0,14),(2,15),(2,16),(2,17)] kr ?_;have j:=HT.drew;obtain⟨s1,s2,s3,⟨u,s4⟩,s5,s6⟩:=j.swap hm D;refine ρp ?_;refine dix (m-1) j.rd D ?_;refine Jz (j.cell D) ?_;refine Jd (m) j.rd hm ?_;refine Jz (j.cell hm) ?_;refine Jd (m) j.rd hm ?_;refine ρd ?_;refine Qv ?_;refine sto (j.cell hm) s1 ?_ (hv:=j.one D);refine ρ ?_;refine Xz ?_;refine Qv ?_;refine ix (m-1) s2 D ?_;refine ρ ?_;refine Xz ?_;refine Qv ?_;refine sto s4 s3 ?_ (hv:=j.one hm);refine ρ ?_;exact Jf (m-1) _ sO ⟨s5,om⟩ om
 clear H5 q5;rintro q5 w5 H5;refine ciR (λh=>?_) (λh=>?_);rotate_left
 .refine ρ ?_;exact Qe (k+1) i q5 sO ⟨H5,om⟩ om
 refine ρ ?_;refine Jo (fun (m:Nat) (q:List Pr)=>[(0,.slice A n c),(1,.int .i64 (a:Int)),(2,.int .i64 (b:Int)),(3,.func (.func fid) first cap),(9,.int .i64 (i:Int)),(10,.int .i64 (k:Int)),(12,.int .i64 (m:Int))]) (λm q w'=>DP w w' base A n c ps q/\0<m/\m<=b) (λm _=>b-m) (i+1) q5 sO ⟨H5,om⟩ ?_;rintro m q w2 ⟨H,hm⟩;refine ciR (λh=>?_) (λh=>?_);rotate_left
 .refine ρ ?_;exact Qe (k+1) i q sO ⟨H,om⟩ om
 have h1:m<n:=by have:=oT h;omega
 have h2:m<b:=by have:=oT h;omega
 have D:m-1<n:=om
 refine drR (scq 13 [10]) ?_;have J:=H.drew;refine ρd ?_;refine Jd (m) J.rd h1 ?_;refine Jz (J.cell h1) ?_;refine Jd (m-1) J.rd D ?_;refine Jz (J.cell D) ?_;refine ρd ?_;refine Yy (hC.call J h1 D) ?_;rintro r a1 ⟨a3,rfl,C⟩;refine⟨C,?_⟩;have HT:=J.ext C;refine ρd ?_;refine ciR (λh=>?_) (λh=>?_)
 .refine ρ ?_;exact Qe (k+1) i q sO ⟨HT,om⟩ om
 refine ρ ?_;refine drC 4 [0,1,2,3,4,5,6,7,10,11] [(0,8),(0,9),(0,12),(0,13),(0,14),(2,15),(2,16),(2,17)] kr ?_;have j:=HT.drew;obtain⟨s1,s2,s3,⟨u,s4⟩,s5,s6⟩:=j.swap h1 D;refine ρp ?_;refine dix (m-1) j.rd D ?_;refine Jz (j.cell D) ?_;refine Jd (m) j.rd h1 ?_;refine Jz (j.cell h1) ?_;refine Jd (m) j.rd h1 ?_;refine ρd ?_;refine Qv ?_;refine sto (j.cell h1) s1 ?_ (hv:=j.one D);refine ρ ?_;refine Xz ?_;refine Qv ?_;refine ix (m-1) s2 D ?_;refine ρ ?_;refine Xz ?_;refine Qv ?_;refine sto s4 s3 ?_ (hv:=j.one h1);refine ρ ?_;exact Jf (m+1) _ sO ⟨s5,om⟩ om
open Go.RowKit Pl Go.Wk
variable {ps q q':List Pr}{base c n:Nat}{A:Option Addr}{w w' w0:World}
theorem DP.same(h:DP w0 w base A n c ps q)(k:DP w w' base A n c q q): DP w0 w' base A n c ps q:=h.after k
theorem DP.ins{a b:Nat}(h:DP w0 w base A n c ps q)(k1:Dat w' base (.slice A n c) q')(k2:Seg z0 a b q q')(k3:w.grownBy w' (Value.slice A n c).ownBlock): DP w0 w' base A n c ps q' :=
 ⟨k1,k2.perm.trans h.p,Vk h.g k3,by rw[k2.len];exact h.l⟩
theorem Qrz: ∀(m:Nat) {w:World} {base:Nat} {A:Option Addr} {n c:Nat} {fid:FuncId} {first cap:Array Value} {ps:List Pr} {ds:List Bool} (hD:Dat w base (.slice A n c) ps) (hn:ps.length=n) (hmx:n<=140737488355328) (hC:CF w (Value.slice A n c).ownBlock fid first cap ps ds) {a b:Nat} {ai bi lim:Int} (hai:ai=(a:Int)) (hbi:bi=(b:Int)) (hab:a<=b) (hb:b<=n) (hl:0<=lim/\lim<=64) (hm:b-a<=m),
  Ret Tryz.prog 189 [.slice A n c,.int .i64 ai,.int .i64 bi,.int .i64 lim,.func (.func fid) first cap] w λv w'=>∃ ps',DP w w' base A n c ps ps':=by
 intro m;induction m using Nat.strongRecOn with
 | ind m ih=>
 intro w base A n c fid first cap ps ds hD hn hmx hC a b ai bi lim hai hbi hab hb hl hm
 subst hai;subst hbi;refine enE Tryz.func189 Tryz.ntmps189 ?_;refine ρ ?_;refine Jxg (fun (ab:Nat×Nat) (lt:Int×Bool) (wp:Bool) (q:List Pr)=>[(0,.slice A n c),(1,.int .i64 (ab.1:Int)),(2,.int .i64 (ab.2:Int)),(3,.int .i64 lt.1),(4,.func (.func fid) first cap),(10,.bool lt.2),(11,.bool wp)])
  (λab lt wp q w'=>DP w w' base A n c ps q/\ab.1<=ab.2/\ab.2<=n/\ab.2-ab.1<=m/\0<=lt.1/\lt.1<=64) (λab _ _ _=>ab.2-ab.1) (a,b) (lim,true) true ps sB ⟨DP.start hD hn,om,om,om,om,om⟩ ?_
 clear hD hab hb hm;rintro⟨a,b⟩ ⟨lim,wb⟩ C q w1 ⟨H,hab,hb,hm,Z,O⟩;simp only at hab hb hm Z O;refine ciR (λh=>?_) (λh=>?_)
 .refine clR (Qkv (ai:=(a:Int)) (bi:=(b:Int)) H.d H.l rfl rfl hb om hmx (hC.step H).pack) ?_;rintro v w2 ⟨D,k1,k2,k3,k4⟩;refine ρ ?_;exact Jzs ⟨D,H.ins k1 k2 k4⟩
 have a2:a+12<b:=by have:=oF h;omega
 clear h;refine ciR (λh=>?_) (λh=>?_)
 .refine clR (Xzl (a:=a) (b:=b) H.d H.l hmx (hC.step H) rfl rfl om hb) ?_;rintro v w2 ⟨D,o⟩;refine ρ ?_;exact Jzs ⟨D,H.after o⟩
 have a6:lim≠0:=Zz h;clear h;refine ρ ?_;refine Jjs (fun (lim:Int) (q:List Pr)=>[(0,.slice A n c),(1,.int .i64 (a:Int)),(2,.int .i64 (b:Int)),(3,.int .i64 lim),(4,.func (.func fid) first cap),(10,.bool wb),(11,.bool C),(12,.int .i64 ((b:Int)-(a:Int)))]) (λlim q w'=>DP w w' base A n c ps q/\0<=lim/\lim<=64) ?_ ?_
 .refine ci (λh=>?_) (λh=>?_)
  .refine clR (Xyj (a:=a) (b:=b) H.d H.l hmx (hC.step H) rfl rfl a2 hb) ?_;rintro v w2 ⟨D,o⟩;refine ρ ?_;exact Vp (lim-1) D sB ⟨H.after o,om,om⟩
  refine ρ ?_;exact Vp lim q sB ⟨H,om,om⟩
 clear H Z O a6 lim q;rintro lim q w2 ⟨H,Z,O⟩;refine clR (Xvs (a:=a) (b:=b) H.d H.l hmx (hC.step H) rfl rfl a2 hb) ?_;rintro v w3 ⟨pv,i,rfl,J,G,o⟩;have u:=H.same o;clear H o;refine ρ ?_;refine Jrk (fun (pv:Nat) (i:Int) (q:List Pr)=>[(0,.slice A n c),(1,.int .i64 (a:Int)),(2,.int .i64 (b:Int)),(3,.int .i64 lim),(4,.func (.func fid) first cap),(10,.bool wb),(11,.bool C),(12,.int .i64 ((b:Int)-(a:Int))),(13,.int .i64 (pv:Int)),(14,.int .i64 i)]) (λpv i q w'=>DP w w' base A n c ps q/\a<=pv/\pv<b) ?_ ?_
 .refine ci (λh=>?_) (λh=>?_)
  .refine clR (Qnx (a:=a) (b:=b) u.d u.l hmx (hC.step u) rfl rfl om hb) ?_;rintro v w2 ⟨D,o⟩;refine ρ ?_;exact Jbs (b-1-(pv-a)) 1 D sO ⟨u.after o,om,om⟩
  refine ρ ?_;exact Jbs pv i q sB ⟨u,J,G⟩
 clear u J G pv i q;rintro pv i q w3 ⟨H,J,G⟩;refine ρ ?_;refine Ve (fun (t:Bool)=>[(0,.slice A n c),(1,.int .i64 (a:Int)),(2,.int .i64 (b:Int)),(3,.int .i64 lim),(4,.func (.func fid) first cap),(10,.bool wb),(11,.bool C),(12,.int .i64 ((b:Int)-(a:Int))),(13,.int .i64 (pv:Int)),(75,.bool t)]) (λt w'=>DP w w' base A n c ps q) ?_ ?_
 .refine ki 69 (λh=>?_) (λh=>?_)
  .refine ρ ?_;refine ki 72 (λh=>?_) (λh=>?_)
   .refine ρ ?_;exact Jc _ sB H
   refine ρ ?_;exact Jc _ sB H
  refine ρ ?_;exact Jc _ sB H
 clear H;rintro t w4 H;refine Zc (fun (q:List Pr)=>[(0,.slice A n c),(1,.int .i64 (a:Int)),(2,.int .i64 (b:Int)),(3,.int .i64 lim),(4,.func (.func fid) first cap),(10,.bool wb),(11,.bool C),(12,.int .i64 ((b:Int)-(a:Int))),(13,.int .i64 (pv:Int))]) (λq w'=>DP w w' base A n c ps q) ?_ ?_
 .refine ci (λh=>?_) (λh=>?_)
  .refine clR (Qsd (a:=a) (b:=b) H.d H.l hmx (hC.step H) rfl rfl om hb) ?_;rintro v w2 ⟨D,o,t2,rfl⟩;refine ciR (λh=>?_) (λh=>?_)
   .refine ρ ?_;exact Jzs ⟨D,H.after o⟩
   refine ρ ?_;exact Jc _ sB (H.after o)
  refine ρ ?_;exact Jc _ sB H
 clear H q;rintro q w5 H;refine ρ ?_;refine Zc (fun (t:Bool)=>[(0,.slice A n c),(1,.int .i64 (a:Int)),(2,.int .i64 (b:Int)),(3,.int .i64 lim),(4,.func (.func fid) first cap),(10,.bool wb),(11,.bool C),(12,.int .i64 ((b:Int)-(a:Int))),(13,.int .i64 (pv:Int)),(97,.bool t)]) (λt w'=>DP w w' base A n c ps q) ?_ ?_
 .skip
  refine dr (scq 17 [13]) kr ?_;have Hd:=H.drew;refine ρd ?_;refine dki 83 (λh=>?_) (λh=>?_)
  .have hT:0<a:=by have:=oT h;omega
   have lx:a-1<n:=om
   have ly:pv<n:=om
   refine Jd (a-1) Hd.rd lx ?_;refine Jz (Hd.cell lx) ?_;refine Jd (pv) Hd.rd ly ?_;refine Jz (Hd.cell ly) ?_;refine ρd ?_;refine Yy (hC.call Hd lx ly) ?_;rintro r a7 ⟨a8,rfl,a1⟩;refine⟨a1,?_⟩;have HT:=Hd.ext a1;refine ρd ?_;refine ρ ?_;exact Jc _ sB HT
  refine ρd ?_;refine ρ ?_;exact Jc false sB Hd
 clear H;rintro t2 w6 H;refine ci (λh=>?_) (λh=>?_)
 .refine clR (Qsg (a:=a) (b:=b) (pv:=pv) H.d H.l hmx (hC.step H) rfl rfl rfl om hb J G) ?_;rintro v w2 ⟨D,o,j,rfl,a5,a4⟩;refine ρ ?_;exact Ka (j,b) (lim,wb) C D sB ⟨H.after o,by simp only;omega,by simp only;omega,by simp only;omega,by simp only;omega,by simp only;omega⟩ (by simp only;omega)
 refine clR (Qsf (a:=a) (b:=b) (pv:=pv) H.d H.l hmx (hC.step H) rfl rfl rfl om hb J G) ?_;rintro v w7 ⟨D,o,j,a3,rfl,a5,a4⟩;have u:=H.after o;clear H o;refine ρ ?_;refine qn (b-a) 8 ?_;refine ciR (λh=>?_) (λh=>?_)
 .refine clR (ih (j-a) om u.d u.l hmx (hC.step u) (a:=a) (b:=j) rfl rfl om om ⟨Z,O⟩ (nR _)) ?_;rintro v w8 ⟨q3,H4⟩;refine ρ ?_;exact Ka (j+1,b) (lim,_) a3 q3 sO ⟨u.after H4,by simp only;omega,by simp only;omega,by simp only;omega,by simp only;omega,by simp only;omega⟩ (by simp only;omega)
 refine clR (ih (b-(j+1)) om u.d u.l hmx (hC.step u) (a:=j+1) (b:=b) (ai:=(j:Int)+1) om rfl om om ⟨Z,O⟩ (nR _)) ?_;rintro v w8 ⟨q3,H4⟩;refine ρ ?_;exact Ka (a,j) (lim,_) a3 q3 sO ⟨u.after H4,by simp only;omega,by simp only;omega,by simp only;omega,by simp only;omega,by simp only;omega⟩ (by simp only;omega)
end Go.Proofs.YtgobkbeokaaplaaGreatDoor
namespace Go.Wk
open Go.RowKit
variable {cs xs:List Value}{base e m n:Nat}{N N':Nat->Prop}{A:Option Addr}{g:Option Nat}{v x:Value}{a w w':World}
structure GrN(N:Nat->Prop)(w w':World): Prop where
 os:w'.os=w.os
 tape:w'.tape=w.tape
 output:w'.output=w.output
 size:w.heap.size<=w'.heap.size
 block:∀ k,k<w.heap.size->¬ N k->w'.heap[k]?=w.heap[k]?
theorem GrN.refl(N:Nat->Prop)(w:World): GrN N w w:=⟨rfl,rfl,rfl,Nat.le_refl _,λ_ _ _=>rfl⟩
theorem GrN.ext(h:Ext w w'): GrN N w w':=⟨h.os,h.tape,h.output,h.size,λk i _=>h.block k i⟩
theorem GrN.trans{N:Nat->Prop}{a b c:World}(h:GrN N a b)(k:GrN N b c): GrN N a c :=
 ⟨k.os.trans h.os,k.tape.trans h.tape,k.output.trans h.output,Nat.le_trans h.size k.size,λj i hn=>(k.block j (nM i h.size) hn).trans (h.block j i hn)⟩
theorem GrN.by(h:w.grownBy w' g)(hg:∀ k,g=some k->N k): GrN N w w':=⟨h.os,h.tape,h.output,h.size,λk i hn=>h.block k i (λe=>hn (hg k e.symm))⟩
theorem GrN.set{p:Addr}(u:Value)(hp:N p.block): GrN N w (w.setCell p u):=by
 refine⟨rfl,rfl,rfl,by simp[World.setCell],λk i hn=>Below.heap_setCell w p u k ?_⟩;grind
theorem GrN.mono(h:GrN N w w')(hN:∀ k,k<w.heap.size->N k->N' k): GrN N' w w':=⟨h.os,h.tape,h.output,h.size,λk i hn=>h.block k i (λe=>hn (hN k i e))⟩
theorem GrN.old(h:GrN N w w')(hx:Ext a w)(hN:∀ k,N k->a.heap.size<=k): Ext a w' :=
 ⟨h.os.trans hx.os,h.tape.trans hx.tape,h.output.trans hx.output,Nat.le_trans hx.size h.size,λk i=>(h.block k (nM i hx.size) (λe=>by have:=hN k e;omega)).trans (hx.block k i)⟩
theorem GrN.toExt(h:GrN (λ_=>False) w w'): Ext w w':=⟨h.os,h.tape,h.output,h.size,λk i=>h.block k i (λe=>e)⟩
def Off(N:Nat->Prop)(w:World)(Φ:World->Prop): Prop:=∀ w',GrN N w w'->Φ w'
section
variable {N N':Nat->Prop} {w w':World} {Φ Ψ:World->Prop}
theorem Off.here(h:Off N w Φ): Φ w:=h w (GrN.refl N w)
theorem Off.gr(h:Off N w Φ)(hg:GrN N w w'): Off N w' Φ:=λi j=>h i (hg.trans j)
theorem Off.ext(h:Off N w Φ)(hx:Ext w w'): Off N w' Φ:=h.gr (GrN.ext hx)
theorem Off.mono(h:Off N w Φ)(hN:∀ k,k<w.heap.size->N' k->N k): Off N' w Φ:=λw' i=>h w' (i.mono hN)
theorem Off.imp(h:Off N w Φ)(hi:∀ u,Φ u->Ψ u): Off N w Ψ:=λw' i=>hi w' (h w' i)
theorem Off.and(h:Off N w Φ)(k:Off N w Ψ): Off N w (λu=>Φ u/\Ψ u):=λw' i=>⟨h w' i,k w' i⟩
theorem Off.grown(h:Off N w Φ)(hg:w.grownBy w' g)(hN:∀ k,g=some k->N k): Off N w' Φ:=h.gr (GrN.by hg hN)
theorem Off.set(h:Off N w Φ){p:Addr}(u:Value)(hp:N p.block): Off N (w.setCell p u) Φ:=h.gr (GrN.set u hp)
theorem Off.old{a:World}(hΦ:∀ u,Ext a u->Φ u)(hx:Ext a w)(hN:∀ k,N k->a.heap.size<=k): Off N w Φ:=λw' i=>hΦ w' (i.old hx hN)
theorem Yj{sz:Nat}(h:Rd w sz A n cs)(hg:GrN N w w')(hA:0<cs.length->∀ ad,A=some ad->¬ N ad.block): Rd w' sz A n cs :=
 ⟨h.1,λh0=>by
  obtain⟨ad,e,i,C⟩:=h.2 h0;refine⟨ad,e,Nat.lt_of_lt_of_le i hg.size,λj u o=>?_⟩;rw[<-C j u o];exact World.cell?_of_block (by rw[Ud];exact hg.block _ i (hA h0 ad e))⟩
theorem Iu{sz:Nat}(h:Rd w sz A n cs)(hA:0<cs.length->∀ ad,A=some ad->¬ N ad.block): Off N w (λu=>Rd u sz A n cs):=λw' i=>Yj h i hA
theorem Jy{g:Nat}{t:TypeId}(h:Blk w g t cs)(hg:GrN N w w')(hn:¬ N g): Blk w' g t cs:=(hg.block g h.lt hn).trans h
theorem Je{sz:Nat}(h:w.ownsRow base e sz v m xs)(hg:GrN N w w')(hn:∀ g,v.ownBlock=some g->¬ N g): w'.ownsRow base e sz v m xs:=by
 rcases h with⟨C,⟨rfl,rfl⟩|⟨g,u,o,rfl,O,G,j,D,J,ht⟩⟩
 .exact⟨C,.inl ⟨rfl,rfl⟩⟩
 refine⟨C,.inr ⟨g,u,o,rfl,O,?_,j,D,J,ht⟩⟩;have i:g<w.heap.size:=by grind
 rw[hg.block g i (hn g rfl)];exact G
theorem Jxx{sz:Nat}(h:w.ownsRow base e sz v m xs)(hn:∀ g,v.ownBlock=some g->¬ N g): Off N w (λu=>u.ownsRow base e sz v m xs):=λw' i=>Je h i hn
end
theorem Zk{P:Program}{al:AL}{tt:TT}[h:Tab P tt]{fn:Func}{Φ:Value->World->Prop}{c t t1 b:Nat}{k:TK}(hb:Blk w b t cs)(hp:Φ (.tuple #[.agg cs.toArray,x]) w)(hr:fn.results = #[.cell c t,.tmp t1]:=by rfl)(ht:tk tt t=some k:=by rfl)(hk:k.desc=.invalid:=by rfl)(hs:k.size=cs.length:=by rfl)(hc:lk al c=some (.pointer (some ⟨b,0,none⟩)):=by rfl)(h1:lk al t1=some x:=by rfl):
  QX n (Yb P fn Φ) .ret al w :=
 Jvw (rs:=[.cell c t,.tmp t1]) (vs:=[.agg cs.toArray,x]) hr ⟨⟨_,hc,Jxn h.ok ht hk hs (λj u i=>hb.at i)⟩,h1,trivial⟩ rfl hp
end Go.Wk
