/- Part 1. -/
import Derived.Test.YtgobkbeokaaplaaGreatDoorI00
import Derived.Test.YtgobkbeokaaplaaGreatDoorRows
import Derived.IntWalk
import Derived.Laws.Cover3
import Derived.Lib.Bytealg
import Derived.Laws.Bits64b
set_option linter.unusedVariables false
set_option maxRecDepth 100000
set_option maxHeartbeats 40000000
namespace Go.Wk
open Go.RowKit
variable {cs xs:List Value}{base c e j m:Nat}{A:Option Addr}
section
variable {P:Program} {n:Nat} {al:AL} {w:World} {Q:Exit->Act->World->Prop} {ops:Array Oper} {rest:List Oper}
variable {d ty:Nat} {op:Op} {pos:String} {aft:Array Edge} {tt:TT}
theorem Qlz{sz:Nat}(ho:w.ownsRow base e sz (.slice A m c) m xs)(hj:j<m)(hl:cs.length=sz)(h1:∀ u∈cs,u.oneCell'=true):
  ∃ w',(storeCells (adr A (j*sz)) cs).run P w=.ok () w'/\w'.ownsRow base e sz (.slice A m c) m (xs.take (j*sz)++cs++xs.drop (j*sz+sz))/\w.grownBy w' (Value.slice A m c).ownBlock:=by
 rcases ho.2 with⟨_,h0⟩|⟨g,cap,cur,hv,hb,hg,hc,hcm,hcs,ht⟩
 .omega
 injection hv with C _ e3
 subst C;subst e3;have G:j*sz+sz<=m*sz:=by have:=nO sz hj;grind
 have D:m*sz<=c*sz:=nO _ hc;have J:adr (some ⟨g,0,none⟩) (j*sz)=⟨g,j*sz,none⟩:=by simp[adr,Yf]
 rw[J];have i:=run_storeCells_at (P:=P) g (j*sz) e cs 0 cur w hg om h1;simp only[Nat.add_zero]at i;refine⟨_,i,⟨?_,.inr ⟨g,c,_,rfl,hb,setRow_heap w g cur _ e (0,0) hg,hc,hcm,?_,?_⟩⟩,?_⟩
 .grind
 .grind
 .simp only;have o:(cur.toList.take (j*sz)++cs).length=j*sz+sz:=by grind
  rw[List.take_append,o];have C:(cur.toList.take (j*sz)++cs).take (m*sz)=cur.toList.take (j*sz)++cs:=List.take_of_length_le om;rw[C,<-ht,List.take_take,Nat.min_eq_left om,List.drop_take,hl]
 have:=Jqp w g (cur.toList.take (j*sz)++cs++cur.toList.drop (j*sz+cs.length)).toArray;exact this
theorem Jkr[h:Tab P tt]{x y:Operand}{t sz:Nat}{k:TK}(ho:w.ownsRow base e sz (.slice A m c) m xs)(hj:j<m)(kk:∀ w1,w1.ownsRow base e sz (.slice A m c) m (xs.take (j*sz)++cs++xs.drop (j*sz+sz))->w.grownBy w1 (Value.slice A m c).ownBlock->WL P n ops Q rest al w1)(h1:∀ u∈cs,u.oneCell'=true)(ht:tk tt t=some k:=by rfl)(hk:k.desc=.invalid:=by rfl)(hs:k.size=sz:=by rfl)(hl:cs.length=sz:=by rfl)(hx:ev al x=some (.pointer (some (adr A (j*sz)))):=by rfl)(hy:ev al y=some (.agg cs.toArray):=by rfl):
  WL P n ops Q (⟨none,.store t x y,ty,pos,aft,none⟩::rest) al w:=by
 obtain⟨w',o,C,D⟩:=Qlz (P:=P) ho hj hl h1;refine Jjh (λa G=>?_) (kk w' C D);have i:=Vo w (Jxl h.ok ht hk w).2;simp[execOp,G.ev hx,G.ev hy,Instr.storeAt,Instr.sureAddr,storeVar,Value.cells,i,hs,hl,o]
end
end Go.Wk
namespace Go.Wk
open Go.RowKit
variable {a:Act}{p q:Bool}{cs vs:List Value}{e len:Nat}{x y:Operand}{k:TK}{td:TypeDesc}{t t2:TypeId}{v:Value}
section
variable {P:Program} {n:Nat} {al:AL} {w:World} {Q:Exit->Act->World->Prop} {ops:Array Oper} {rest:List Oper} {drest:List (Nat×Oper)}
variable {d ty:Nat} {op:Op} {pos:String} {aft:Array Edge} {tt:TT}
def toE(P:Program)(ops:Array Oper)(Q:Exit->Act->World->Prop)(w0:World)(rest:List (Nat×Oper)): Exit->Act->World->Prop
 | .normal,a,w=>Ext w0 w/\Qe P ops Q rest a w
 | _,_,_=>False
theorem Gy{w0:World}(hx:Ext w0 w)(h:WD P n ops Q drest al w): QX n (toE P ops Q w0 drest) .normal al w:=λa i=>⟨hx,h a i⟩
theorem Gb{o:Oper}(h:WL P n ops (toE P ops Q w drest) [o] al w): WD P n ops Q ((1,o)::drest) al w:=λa u=>by
 have i:=h a u;unfold wpList at i;unfold Qe wk1;simp only;have j:¬ LetsOut (toE P ops Q w drest):=by rintro⟨a,w,h⟩;exact h
 split
 .rename_i hw;simp only[hw,if_true]at i;rcases i with i|⟨_,i⟩
  .refine Oper.wp_mono (K:=wpList P ops (toE P ops Q w drest) []) (λD w' C=>C) ?_;unfold Oper.wp at i ⊢;grind [Yh,toE]
  exact absurd i j
 rename_i hw;simp only[hw]at i;exact i.2
theorem Qfq(ht:P.underlying t=some td)(hn:∀ ms,td≠.interface ms)(ha:Fr n al a)(hx:ev al x=some v)(dst:Option Nat)(w:World):
  (execOp a.eval ⟨dst,.makeInterface t x,ty,pos,aft,none⟩).run P w=.ok (.value (.iface t v)) w:=by
 simp only[execOp,ha.ev hx,Instr.makeInterface,Sem.run_bind,run_underlying ht,Result.andThen_ok];cases td<;>first|rfl|exact absurd rfl (hn _)
theorem dmki(ht:P.underlying t=some td)(hn:∀ ms,td≠.interface ms)(kk:WD P n ops Q drest ((d,.iface t v)::al) w)(hx:ev al x=some v:=by rfl)(hd:Nat.blt d n=true:=by rfl): WD P n ops Q ((0,⟨some d,.makeInterface t x,ty,pos,aft,none⟩)::drest) al w :=
 dy (λw' _ a i=>Qfq ht hn i hx (some d) w') hd kk
theorem Qfs(hT:TOk P tt)(ht:tk tt t=some k)(hk:k.desc=.bool)(ha:Fr n al a)(hx:ev al x=some (.bool p))(hy:ev al y=some (.bool q))(dst:Option Nat)(w:World):
  (execOp a.eval ⟨dst,.binOp .eql t x y t2,ty,pos,aft,none⟩).run P w=.ok (.value (.bool (p == q))) w:=by
 have i:=Yv hT ht hk rfl;have h:∀ d:Nat,(Op.equalIn (d+1) t (.bool p) (.bool q)).run P w=.ok (p == q) w:=λd=>by simp[Op.equalIn,run_underlying i]
 simp[execOp,ha.ev hx,ha.ev hy,eqGuard,binOp,Op.equal,Op.maxDepth,h 9999]
theorem eqb[h:Tab P tt](kk:WL P n ops Q rest ((d,.bool (p == q))::al) w)(ht:tk tt t=some k:=by rfl)(hk:k.desc=.bool:=by rfl)(hx:ev al x=some (.bool p):=by rfl)(hy:ev al y=some (.bool q):=by rfl)(hd:Nat.blt d n=true:=by rfl):
  WL P n ops Q (⟨some d,.binOp .eql t x y t2,ty,pos,aft,none⟩::rest) al w:=wop hd (λa i=>Qfs h.ok ht hk i hx hy (some d) w) kk
theorem Un{t:Nat}{parts:Array (Nat×Operand)}{pw:Array (Nat×Value)}(hb:∀ w:World,(Instr.buildSlice t len pw).run P w=.ok (.slice (some ⟨w.heap.size,0,none⟩) len len) (w.alloc (.cells cs.toArray e)))(kk:∀ w1 b,Ext w w1->w.heap.size<=b->Blk w1 b e cs->WD P n ops Q drest ((d,.slice (some ⟨b,0,none⟩) len len)::al) w1)(hx:evs al (parts.toList.map (·.2))=some vs:=by rfl)(hp:((parts.toList.map (·.1)).zip vs).toArray=pw:=by rfl)(hd:Nat.blt d n=true:=by rfl):
  WD P n ops Q ((1,⟨some d,.buildSlice t len parts,ty,pos,aft,none⟩)::drest) al w :=
 Gb (bsl hb (λw1 b i o j=>Jd (Gy i (kk w1 b i o j))) hx hp hd)
end
end Go.Wk
namespace Go.Wk
open Go.RowKit
variable {L listed:Array Bool}{l:List Oper}{fuel fuel' i id:Nat}{o oi oj:Oper}{w w0:World}
section
variable {P:Program} {ops:Array Oper} {Q:Exit->Act->World->Prop}
def noT: Nat->Bool:=λ_=>false
theorem Qdd: Jjp ops noT=true:=by simp[Jjp,noT]
def Jjf(ops:Array Oper): List (Nat×Nat)->Array Bool->Option (Array Bool)
 | [],listed=>some listed
 | (0,i)::r,listed=>if(Region.ready .any ops listed).contains i && Region.free .any ops listed i && Nat.blt i ops.size then Jjf ops r (listed.setIfInBounds i true) else none
 | (1,i)::r,listed=>if(Region.ready .any ops listed == [i]) && Nat.blt i ops.size then Jjf ops r (listed.setIfInBounds i true) else none
 | _::_,_=>none
def toK(P:Program)(ops:Array Oper)(Q:Exit->Act->World->Prop)(fuel:Nat)(listed:Array Bool): Exit->Act->World->Prop
 | .normal,a,w=>Ua P ops Q noT fuel listed a w
 | _,_,_=>False
theorem Xwz{a:Act}{K:Act->World->Prop}(h:o.wp P a w K (QF (toK P ops Q fuel listed))): o.wp P a w K (QF Q):=by
 unfold Oper.wp at h ⊢;have i:¬ LetsOut (QF (toK P ops Q fuel listed)):=by rintro⟨a,w,h⟩;exact h
 grind [Yh,QF,toK]
theorem Jvz(hsel:Region.noSelect ops=true)(fuel:Nat)(listed':Array Bool): ∀(s:List (Nat×Nat)) (listed:Array Bool) (a:Act) (w:World),Jjf ops s listed=some listed'->Qe P ops (toK P ops Q fuel listed') (Qd ops.toList s) a w->Ua P ops Q noT (s.length+fuel) listed a w
 | [],listed,a,w,hB,h=>by
  simp only[Jjf,Option.some.injEq]at hB;subst hB;simp only[List.length_nil,Nat.zero_add];exact h
 | (0,i)::r,listed,a,w,hB,h=>by
  simp only[Jjf]at hB;split at hB
  .rename_i hc;simp only[Bool.and_eq_true]at hc;obtain⟨⟨hr,hf⟩,hi0⟩:=hc;have hi:i<ops.size:=by(have:i+1<=ops.size:=by simpa [Nat.blt] using hi0);(omega)
   have ho:ops[i]?=some ops[i]:=Array.getElem?_eq_getElem hi;have hn:nth ops.toList i=some ops[i]:=by rw[Xb];simp[hi]
   simp only[Qd,hn,Qe,wk1]at h;obtain⟨v,hy,h⟩:=h;rw[show((0,i)::r).length+fuel=(r.length+fuel)+1 by simp;omega];exact Jnr Qdd ho rfl (Region.noSelect_spec hsel) _ listed a w (Region.free_spec ho hf) (by simpa using hr) hy (Jvz hsel fuel listed' r _ _ _ hB h)
  cases hB
 | (1,i)::r,listed,a,w,hB,h=>by
  simp only[Jjf]at hB;split at hB
  .rename_i hc;simp only[Bool.and_eq_true,beq_iff_eq]at hc;obtain⟨hr,hi0⟩:=hc;have hi:i<ops.size:=by(have:i+1<=ops.size:=by simpa [Nat.blt] using hi0);(omega)
   have ho:ops[i]?=some ops[i]:=Array.getElem?_eq_getElem hi;have hn:nth ops.toList i=some ops[i]:=by rw[Xb];simp[hi]
   simp only[Qd,hn,Qe,wk1]at h;rw[show((1,i)::r).length+fuel=(r.length+fuel)+1 by simp;omega];refine .inr ⟨λh0=>(by rw[hr]at h0;cases h0),λj hj=>?_⟩;rw[hr]at hj;obtain rfl:j=i:=by simpa using hj
   unfold wpOp;simp only[ho];split
   .rename_i hw;simp only[hw,if_true]at h;exact .inl (Oper.wp_mono (λa' w' h'=>⟨h'.1,Jvz hsel fuel listed' r _ _ _ hB h'.2⟩) (Xwz h))
   rename_i hw;simp only[hw]at h;exact⟨Ext.refl w,Jvz hsel fuel listed' r _ _ _ hB h⟩
  cases hB
 | (k+2,i)::r,listed,a,w,hB,h=>by simp[Jjf]at hB
end
section
variable {P:Program} {n:Nat} {al al':AL} {w:World} {Q:Exit->Act->World->Prop} {ops:Array Oper}
def WG(P:Program)(n:Nat)(ops:Array Oper)(Q:Exit->Act->World->Prop)(fuel:Nat)(listed:Array Bool)(al:AL)(w:World): Prop:=∀ a,Fr n al a->Ua P ops Q noT fuel listed a w
theorem WG.sub{fuel:Nat}{listed:Array Bool}(hs:Sub al' al)(h:WG P n ops Q fuel listed al' w): WG P n ops Q fuel listed al w:=λa i=>h a (i.sub hs)
theorem drG{tt:TT}[ht:Tab P tt](hsel:Region.noSelect l.toArray=true)(h:WG P n l.toArray Q l.toArray.size (Array.replicate l.toArray.size false) al w.drew): WC P n (.region id l.toArray true) Q al w:=λa i=>
 wp_region_any ht.mixed (Jdb (T:=noT) _ _ _ _ (h a i))
theorem Vq(s:List (Nat×Nat))(listed':Array Bool)(hsel:Region.noSelect l.toArray=true)(hB:Jjf l.toArray s listed=some listed')(hf:fuel=s.length+fuel')(h:WD P n l.toArray (toK P l.toArray Q fuel' listed') (Qd l s) al w): WG P n l.toArray Q fuel listed al w:=λa i=>by
 subst hf;refine Jvz hsel fuel' listed' s listed a w hB ?_;have:=h a i;simpa using this
theorem Vx(h:WG P n ops Q fuel listed al w): QX n (toK P ops Q fuel listed) .normal al w:=h
theorem gend(hr:Region.ready .any ops listed=[])(h:QX n Q .normal al w): WG P n ops Q 0 listed al w:=λa i=>⟨hr,h a i⟩
def toJ(P:Program)(ops:Array Oper)(Q:Exit->Act->World->Prop)(w0:World)(fuel:Nat)(listed:Array Bool): Exit->Act->World->Prop
 | .normal,a,w=>Ext w0 w/\Ua P ops Q noT fuel listed a w
 | _,_,_=>False
theorem Yq(hx:Ext w0 w)(h:WG P n ops Q fuel listed al w): QX n (toJ P ops Q w0 fuel listed) .normal al w:=λa i=>⟨hx,h a i⟩
theorem Qyw(ho:ops[i]?=some o)(h:WL P n ops (toJ P ops Q w fuel listed) [o] al w): ∀ a,Fr n al a->wpOp P ops (QF Q) i (λa' w'=>Ext w w'/\Ua P ops Q noT fuel listed a' w') a w:=λa C=>by
 have j:=h a C;unfold wpList at j;unfold wpOp;simp only[ho];have u:¬ LetsOut (toJ P ops Q w fuel listed):=by rintro⟨a,w,h⟩;exact h
 split
 .rename_i hw;simp only[hw,if_true]at j;rcases j with j|⟨_,j⟩
  .left
   refine Oper.wp_mono (K:=wpList P ops (toJ P ops Q w fuel listed) []) (λa' w' D=>D) ?_;unfold Oper.wp at j ⊢;grind [Yh,toJ]
  exact absurd j u
 rename_i hw;simp only[hw]at j;exact j
theorem Io(i j:Nat)(hr:Region.ready .any l.toArray listed=[i,j])(hf:fuel=fuel'+1)(hi:nth l i=some oi)(hj:nth l j=some oj)(h1:WL P n l.toArray (toJ P l.toArray Q w fuel' (listed.setIfInBounds i true)) [oi] al w)(h2:WL P n l.toArray (toJ P l.toArray Q w fuel' (listed.setIfInBounds j true)) [oj] al w): WG P n l.toArray Q fuel listed al w:=λa u=>by
 subst hf;have D:l.toArray[i]?=some oi:=by rw[<-hi,Xb];simp
 have C:l.toArray[j]?=some oj:=by rw[<-hj,Xb];simp
 refine .inr ⟨λh0=>(by rw[hr]at h0;cases h0),λk o=>?_⟩;grind [Qyw]
theorem gcut{α:Type}(fuel':Nat)(L':Array Bool)(fr:α->AL)(I:α->World->Prop)(h2:∀ x w,I x w->WG P n ops Q fuel' L' (fr x) w)(h1:(∀ x al w,I x w->Sub (fr x) al->WG P n ops Q fuel' L' al w)->WG P n ops Q fuel L al w): WG P n ops Q fuel L al w:=h1 λx al w hi i=>(h2 x w hi).sub i
def lst(m k:Nat): Array Bool:=((List.range m).map λi=>Nat.blt i k).toArray
end
end Go.Wk
namespace Go.Wk
open Go.RowKit
variable {L listed listed':Array Bool}{l:List Oper}{fuel fuel' i id:Nat}{o oi oj:Oper}{w w0:World}
section
variable {P:Program} {ops:Array Oper} {Q:Exit->Act->World->Prop} {T:Nat->Bool}
def Kq(ops:Array Oper)(T:Nat->Bool)(F:Nat): List (Nat×Nat)->Array Bool->Option (Array Bool)
 | [],listed=>some listed
 | (0,i)::r,listed=>if(Region.ready .any ops listed).contains i && Region.free .any ops listed i && Nat.blt i ops.size && !T i && (List.range ops.size).all (λt=>!T t || Ug ops F t i) then Kq ops T F r (listed.setIfInBounds i true) else none
 | (1,i)::r,listed=>if(Region.ready .any ops listed == [i]) && Nat.blt i ops.size then Kq ops T F r (listed.setIfInBounds i true) else none
 | (2,i)::r,listed=>if(Region.ready .any ops listed == [i]) && Nat.blt i ops.size && T i then Kq ops T F r (listed.setIfInBounds i true) else none
 | _::_,_=>none
def Jjm(P:Program)(ops:Array Oper)(Q:Exit->Act->World->Prop)(T:Nat->Bool)(fuel:Nat)(listed:Array Bool): Exit->Act->World->Prop
 | .normal,a,w=>Closed ops listed->Vm P ops Q T fuel listed a w
 | _,_,_=>False
theorem Qyf{a:Act}{K:Act->World->Prop}(h:o.wp P a w K (QF (Jjm P ops Q T fuel listed))): o.wp P a w K (QF Q):=by
 unfold Oper.wp at h ⊢;have i:¬ LetsOut (QF (Jjm P ops Q T fuel listed)):=by rintro⟨a,w,h⟩;exact h
 grind [Yh,QF,Jjm]
theorem Jxc(hsel:Region.noSelect ops=true)(F fuel:Nat)(listed':Array Bool): ∀(s:List (Nat×Nat)) (listed:Array Bool) (a:Act) (w:World),Closed ops listed->Kq ops T F s listed=some listed'->Qe P ops (Jjm P ops Q T fuel listed') (Qd ops.toList s) a w->Vm P ops Q T (s.length+fuel) listed a w
 | [],listed,a,w,hcl,hB,h=>by
  simp only[Kq,Option.some.injEq]at hB;subst hB;simp only[List.length_nil,Nat.zero_add];exact h hcl
 | (0,i)::r,listed,a,w,hcl,hB,h=>by
  simp only[Kq]at hB;split at hB
  .rename_i hc;simp only[Bool.and_eq_true]at hc;obtain⟨⟨⟨⟨hr,hf⟩,hi0⟩,hTi⟩,hre⟩:=hc;have hi:i<ops.size:=by(have:i+1<=ops.size:=by simpa [Nat.blt] using hi0);(omega)
   have ho:ops[i]?=some ops[i]:=Array.getElem?_eq_getElem hi;have hn:nth ops.toList i=some ops[i]:=by rw[Xb];simp[hi]
   have hr':i∈Region.ready .any ops listed:=by simpa using hr
   simp only[Qd,hn,Qe,wk1]at h;obtain⟨v,hy,h⟩:=h;rw[show((0,i)::r).length+fuel=(r.length+fuel)+1 by simp;omega];refine Jyb Ext Ext.refl Ext.trans ho (Region.noSelect_spec hsel) ?_ _ listed a w hcl (Region.free_spec ho hf) hr' hy (Jxc hsel F fuel listed' r _ _ _ (hcl.step hr') hB h);intro listed2 j hcl2 hri hrj w w' hx;cases hT:T j with
   | false=>exact hx hT
   | true=>
    obtain⟨_,oj,hoj,_⟩:=mem_ready.1 hrj;have hjl:j<ops.size:=by grind
    have h9:=List.all_eq_true.1 hre j (List.mem_range.2 hjl);rw[hT]at h9;have h1:=Jxn hcl2 F j i oj hoj (Jxm hoj hrj) (by simpa using h9);have h0:=(mem_ready.1 hri).1;grind
  cases hB
 | (1,i)::r,listed,a,w,hcl,hB,h=>by
  simp only[Kq]at hB;split at hB
  .rename_i hc;simp only[Bool.and_eq_true,beq_iff_eq]at hc;obtain⟨hr,hi0⟩:=hc;have hi:i<ops.size:=by(have:i+1<=ops.size:=by simpa [Nat.blt] using hi0);(omega)
   have ho:ops[i]?=some ops[i]:=Array.getElem?_eq_getElem hi;have hn:nth ops.toList i=some ops[i]:=by rw[Xb];simp[hi]
   have hcl':Closed ops (listed.setIfInBounds i true):=hcl.step (by grind);simp only[Qd,hn,Qe,wk1]at h;rw[show((1,i)::r).length+fuel=(r.length+fuel)+1 by simp;omega];refine⟨λh0=>(by rw[hr]at h0;cases h0),λj hj=>?_⟩;rw[hr]at hj;obtain rfl:j=i:=by simpa using hj
   unfold wpOp;simp only[ho];split
   .rename_i hw;simp only[hw,if_true]at h;exact .inl (Oper.wp_mono (λa' w' h'=>⟨λ_=>h'.1,Jxc hsel F fuel listed' r _ _ _ hcl' hB h'.2⟩) (Qyf h))
   rename_i hw;simp only[hw]at h;exact⟨λ_=>Ext.refl w,Jxc hsel F fuel listed' r _ _ _ hcl' hB h⟩
  cases hB
 | (2,i)::r,listed,a,w,hcl,hB,h=>by
  simp only[Kq]at hB;split at hB
  .rename_i hc;simp only[Bool.and_eq_true,beq_iff_eq]at hc;obtain⟨⟨hr,hi0⟩,hTi⟩:=hc;have hi:i<ops.size:=by(have:i+1<=ops.size:=by simpa [Nat.blt] using hi0);(omega)
   have ho:ops[i]?=some ops[i]:=Array.getElem?_eq_getElem hi;have hn:nth ops.toList i=some ops[i]:=by rw[Xb];simp[hi]
   have hcl':Closed ops (listed.setIfInBounds i true):=hcl.step (by grind);simp only[Qd,hn,Qe,wk1]at h;rw[show((2,i)::r).length+fuel=(r.length+fuel)+1 by simp;omega];refine⟨λh0=>(by rw[hr]at h0;cases h0),λj hj=>?_⟩;rw[hr]at hj;obtain rfl:j=i:=by simpa using hj
   unfold wpOp;simp only[ho];split
   .rename_i hw;simp only[hw,if_true]at h;exact .inl (Oper.wp_mono (λa' w' h'=>⟨λh0=>(by grind),Jxc hsel F fuel listed' r _ _ _ hcl' hB h'⟩) (Qyf h))
   rename_i hw;simp only[hw]at h;exact⟨λ_=>Ext.refl w,Jxc hsel F fuel listed' r _ _ _ hcl' hB h⟩
  cases hB
 | (k+3,i)::r,listed,a,w,hcl,hB,h=>by simp[Kq]at hB
end
section
variable {P:Program} {n:Nat} {al al':AL} {w:World} {Q:Exit->Act->World->Prop} {ops:Array Oper} {T:Nat->Bool}
def WH(P:Program)(n:Nat)(ops:Array Oper)(Q:Exit->Act->World->Prop)(T:Nat->Bool)(fuel:Nat)(listed:Array Bool)(al:AL)(w:World): Prop:=Closed ops listed->∀ a,Fr n al a->Vm P ops Q T fuel listed a w
theorem WH.sub{fuel:Nat}{listed:Array Bool}(hs:Sub al' al)(h:WH P n ops Q T fuel listed al' w): WH P n ops Q T fuel listed al w:=λi a j=>h i a (j.sub hs)
theorem Qkn(ops:Array Oper)(m:Nat): Closed ops (Array.replicate m false):=λk o _ i=>by
 exfalso
 rcases Nat.lt_or_ge k m with h|h
 .simp[h]at i
 repeat grind
theorem drH{tt:TT}[ht:Tab P tt](T:Nat->Bool)(h:WH P n l.toArray Q T l.toArray.size (Array.replicate l.toArray.size false) al w.drew): WC P n (.region id l.toArray true) Q al w:=λa i=>
 wp_region_any ht.mixed (Jdc (T:=T) _ _ _ _ (h (Qkn _ _) a i))
theorem Zs(F:Nat)(s:List (Nat×Nat))(listed':Array Bool)(hsel:Region.noSelect l.toArray=true)(hB:Kq l.toArray T F s listed=some listed')(hf:fuel=s.length+fuel')(h:WD P n l.toArray (Jjm P l.toArray Q T fuel' listed') (Qd l s) al w): WH P n l.toArray Q T fuel listed al w:=λi a j=>by
 subst hf;refine Jxc hsel F fuel' listed' s listed a w i hB ?_;have:=h a j;simpa using this
theorem Xy(h:WH P n ops Q T fuel listed al w): QX n (Jjm P ops Q T fuel listed) .normal al w:=λa j i=>h i a j
theorem Uw(hr:Region.ready .any ops listed=[])(h:QX n Q .normal al w): WH P n ops Q T 0 listed al w:=λ_ a i=>⟨hr,h a i⟩
def Jjn(P:Program)(ops:Array Oper)(Q:Exit->Act->World->Prop)(T:Nat->Bool)(w0:World)(fuel:Nat)(listed:Array Bool): Exit->Act->World->Prop
 | .normal,a,w=>Ext w0 w/\(Closed ops listed->Vm P ops Q T fuel listed a w)
 | _,_,_=>False
theorem Ip(hx:Ext w0 w)(h:WH P n ops Q T fuel listed al w): QX n (Jjn P ops Q T w0 fuel listed) .normal al w:=λa j=>⟨hx,λi=>h i a j⟩
theorem Jnl(ho:ops[i]?=some o)(hc:Closed ops listed)(h:WL P n ops (Jjn P ops Q T w fuel listed) [o] al w): ∀ a,Fr n al a->wpOp P ops (QF Q) i (λa' w'=>(T i=false->Ext w w')/\Vm P ops Q T fuel listed a' w') a w:=λa D=>by
 have j:=h a D;unfold wpList at j;unfold wpOp;simp only[ho];have u:¬ LetsOut (Jjn P ops Q T w fuel listed):=by rintro⟨a,w,h⟩;exact h
 split
 .rename_i hw;simp only[hw,if_true]at j;rcases j with j|⟨_,j⟩
  .left
   refine Oper.wp_mono (K:=wpList P ops (Jjn P ops Q T w fuel listed) []) (λa' w' C=>⟨λ_=>C.1,C.2 hc⟩) ?_;unfold Oper.wp at j ⊢;grind [Yh,Jjn]
  exact absurd j u
 rename_i hw;simp only[hw]at j;exact⟨λ_=>j.1,j.2 hc⟩
theorem htwo(i j:Nat)(hr:Region.ready .any l.toArray listed=[i,j])(hf:fuel=fuel'+1)(hi:nth l i=some oi)(hj:nth l j=some oj)(h1:WL P n l.toArray (Jjn P l.toArray Q T w fuel' (listed.setIfInBounds i true)) [oi] al w)(h2:WL P n l.toArray (Jjn P l.toArray Q T w fuel' (listed.setIfInBounds j true)) [oj] al w): WH P n l.toArray Q T fuel listed al w:=λC a D=>by
 subst hf;have J:l.toArray[i]?=some oi:=by rw[<-hi,Xb];simp
 have G:l.toArray[j]?=some oj:=by rw[<-hj,Xb];simp
 refine⟨λh0=>(by rw[hr]at h0;cases h0),λk u=>?_⟩;have o:=u;rw[hr]at u;simp only[List.mem_cons,List.not_mem_nil,or_false]at u;rcases u with rfl|rfl
 .exact Jnl J (C.step o) h1 a D
 exact Jnl G (C.step o) h2 a D
theorem hlist(e:listed=listed')(h:WH P n ops Q T fuel listed' al w): WH P n ops Q T fuel listed al w:=by subst e;exact h
theorem Jwt{α:Type}(fuel':Nat)(L':Array Bool)(fr:α->AL)(I:α->World->Prop)(h2:∀ x w,I x w->WH P n ops Q T fuel' L' (fr x) w)(h1:(∀ x al w,I x w->Sub (fr x) al->WH P n ops Q T fuel' L' al w)->WH P n ops Q T fuel L al w): WH P n ops Q T fuel L al w:=h1 λx al w hi i=>(h2 x w hi).sub i
end
end Go.Wk
namespace Go.Wk
open Go.RowKit
variable {a b z:Int}{k1 kd:IntKind}{i x y:Operand}{k:TK}{t yt:TypeId}
section
variable {P:Program} {n:Nat} {al:AL} {w:World} {Q:Exit->Act->World->Prop} {ops:Array Oper} {rest:List Oper} {drest:List (Nat×Oper)}
variable {d ty:Nat} {op:Op} {pos:String} {aft:Array Edge} {tt:TT}
theorem Qcw(hT:TOk P tt){t m e sz:Nat}(ht:tk tt t=some k)(hk:k.desc=.array m e)(hz:k.esz=sz): P.underlying t=some (.array m e)/\Zu P e=some sz:=by
 have:=hT.at ht;grind [Ud]
theorem Jff(hT:TOk P tt){t m e:Nat}{p:Addr}(j:Nat)(ht:tk tt t=some k)(hk:k.desc=.array m e)(hlt:j<m){a:Act}(ha:Fr n al a)(hx:ev al x=some (.pointer (some p)))(hi:ev al i=some (.int kd z))(hj:z=(j:Int))(dst:Option Nat)(w:World):
  (execOp a.eval ⟨dst,.indexAddr t x i,ty,pos,aft,none⟩).run P w=.ok (.value (.pointer (some (p.add (j*k.esz))))) w:=by
 obtain⟨o,u⟩:=Qcw hT ht hk rfl;subst hj;simp[execOp,ha.ev hx,ha.ev hi,Instr.indexAt,asIntOf,run_underlying o,Vo w u,Instr.sureAddr];intro h;omega
theorem Qfm(h0:b≠0){e:Act}(he:Fr n al e)(hx:ev al x=some (.int k1 a))(hy:ev al y=some (.int k1 b))(dst:Option Nat)(w:World):
  (execOp e.eval ⟨dst,.binOp .rem t x y yt,ty,pos,aft,none⟩).run P w=.ok (.value (.int k1 (a.tmod b))) w:=by
 simp[execOp,he.ev hx,he.ev hy,eqGuard,binOp,Op.intDiv,h0]
theorem rem(h0:b≠0)(kk:WL P n ops Q rest ((d,.int k1 (a.tmod b))::al) w)(hx:ev al x=some (.int k1 a):=by rfl)(hy:ev al y=some (.int k1 b):=by rfl)(hd:Nat.blt d n=true:=by rfl):
  WL P n ops Q (⟨some d,.binOp .rem t x y yt,ty,pos,aft,none⟩::rest) al w:=by grind [wop,Qfm]
end
end Go.Wk
namespace Go.Proofs.YtgobkbeokaaplaaGreatDoor
namespace Pl
variable {a b l:List UInt32}{i m n:Nat}{c:UInt32}
def val: List UInt32->Nat
 | []=>0
 | c::l=>c.toNat+4294967296*val l
def Jq(n:Nat): List UInt32:=if h:n=0 then[] else UInt32.ofNat n::Jq (n / 4294967296)
termination_by n
decreasing_by exact Nat.div_lt_self om (by decide)
theorem limbs_0: Jq 0=[]:=by rw[Jq];rfl
theorem Jbk(h:n≠0): Jq n=UInt32.ofNat n::Jq (n / 4294967296):=by rw[Jq,dif_neg h]
theorem Qrd(h:c.toNat+4294967296*m≠0): Jq (c.toNat+4294967296*m)=c::Jq m:=by
 have i:=c.toNat_lt;grind [Jbk,UInt32.toNat_inj.1,UInt32.toNat_ofNat']
def Xm: List UInt32->List UInt32
 | []=>[]
 | c::l=>if Xm l=[]/\c=0 then[] else c::Xm l
theorem val_0(h:Xm l=[]): val l=0:=by
 induction l with
 | nil=>rfl
 | cons c l ih=>
  simp only[Xm]at h;split at h
  .rename_i h2;rw[val,ih h2.1,h2.2];rfl
  cases h
theorem Ik: ∀ l:List UInt32,Xm l=Jq (val l)
 | []=>by rw[val,limbs_0];rfl
 | c::l=>by
  have ih:=Ik l;simp only[Xm,val];split
  .rename_i h;rw[val_0 h.1,h.2];exact limbs_0.symm
  rename_i h;rw[Qrd,ih];intro h0;apply h
  have hv:val l=0:=om
  refine⟨?_,?_⟩
  .rw[ih,hv,limbs_0]
  apply UInt32.toNat_inj.1
  grind
theorem Va(n:Nat): val (Jq n)=n:=by
 induction n using Nat.strongRecOn with
 | ind n ih=>
  grind [limbs_0,Jbk,val,Nat.div_lt_self,UInt32.toNat_ofNat']
theorem Qch(n:Nat): Xm (Jq n)=Jq n:=by rw[Ik,Va]
theorem Jpq(l:List UInt32): Xm (l++[0])=Xm l:=by
 induction l with
 | nil=>rfl
 | cons c l ih=>simp only[List.cons_append,Xm,ih]
theorem Qcg(l:List UInt32)(h:c≠0): Xm (l++[c])=l++[c]:=by
 induction l with
 | nil=>simp[Xm,h]
 | cons d l ih=>simp only[List.cons_append,Xm,ih];simp
theorem Iq(a b:List UInt32): val (a++b)=val a+4294967296^a.length*val b:=by
 induction a with
 | nil=>simp[val]
 | cons c a ih=>rw[List.cons_append,val,val,ih,List.length_cons,Nat.pow_succ,Nat.mul_add,<-Nat.mul_assoc,Nat.mul_comm (4294967296^a.length) 4294967296];omega
theorem Jyd(a:List UInt32): val a<4294967296^a.length:=by
 induction a with
 | nil=>simp[val]
 | cons c a ih=>
  have i:c.toNat<4294967296:=c.toNat_lt;grind [val,List.length_cons,Nat.pow_succ,Nat.mul_le_mul_left,Nat.mul_comm]
theorem Qbx(l:List UInt32)(h:c≠0): 4294967296^l.length<=val (l++[c]):=by
 have i:0<c.toNat:=by
  rcases Nat.eq_zero_or_pos c.toNat with h0|h0
  .exact absurd (UInt32.toNat_inj.1 h0) h
  exact h0
 rw[Iq,val];have:4294967296^l.length*1<=4294967296^l.length*(c.toNat+4294967296*val []):=Nat.mul_le_mul_left _ om;omega
theorem Qrc(h:n≠0): ∃ l c,Jq n=l++[c]/\c≠0:=by
 rcases List.eq_nil_or_concat (Jq n) with h0|⟨l,c,h0⟩
 .have:=Va n;rw[h0]at this;exact absurd this.symm h
 refine⟨l,c,by rw[h0];simp,λo=>?_⟩;subst o;have i:=Qch n;rw[h0,List.concat_eq_append,Jpq]at i;have j:=congrArg List.length i;have u:(Xm l).length<=l.length:=by
  clear i j h0;induction l with
  | nil=>simp[Xm]
  | cons c l ih=>simp only[Xm];split<;>simp;exact ih
 simp at j;omega
theorem Jgs(h:n≠0): 4294967296^((Jq n).length-1)<=n:=by
 obtain⟨l,c,j,i⟩:=Qrc h;grind [Qbx,Va]
theorem Qrb(n:Nat): n<4294967296^(Jq n).length:=by grind [Jyd,Jq,Va]
theorem Qqd(h:(Jq n).length<(Jq m).length): n<m:=by
 have i:m≠0:=by grind [limbs_0]
 have u:=Jgs i;have o:=Qrb n;have j:4294967296^(Jq n).length<=4294967296^((Jq m).length-1):=Nat.pow_le_pow_right (by decide) om;omega
def Yk(n m:Nat): Int:=if n<m then -1 else if m<n then 1 else 0
theorem Qbw(ha:i<a.length)(hab:a.length=b.length)(ht:a.drop (i+1)=b.drop (i+1))(hl:(a.getD i 0).toNat<(b.getD i 0).toNat): val a<val b:=by
 have G:i<b.length:=om
 have D:a=a.take i++(a.getD i 0::a.drop (i+1)):=by grind [List.getD,List.getElem?_eq_getElem,List.drop_eq_getElem_cons,List.take_append_drop]
 have C:b=b.take i++(b.getD i 0::b.drop (i+1)):=by grind [List.getD,List.getElem?_eq_getElem,List.drop_eq_getElem_cons,List.take_append_drop]
 rw[D,C,Iq,Iq,val,val,ht];have u:(a.take i).length=i:=by grind
 have o:(b.take i).length=i:=by grind
 have j:=Jyd (a.take i);rw[u]at j ⊢;rw[o];have:4294967296^i*((a.getD i 0).toNat+1+4294967296*val (b.drop (i+1)))<=4294967296^i*((b.getD i 0).toNat+4294967296*val (b.drop (i+1))):=Nat.mul_le_mul_left _ om;grind
end Pl
open Go.RowKit Go.Wk
def tt: TT:=[(3,{ desc:=.int .i64 }),
 (2,{ desc:=.int .i64 }),
 (5,{ desc:=.int .u8 }),
 (94,{ desc:=.int .u16 }),
 (64,{ desc:=.int .u32 }),
 (80,{ desc:=.int .u64 }),
 (84,{ desc:=.int .u64 }),
 (4,{ desc:=.bool }),
 (9,{ desc:=.string }),
 (38,{ desc:=.int .i64 }),
 (302,{ desc:=.int .i64 }),
 (325,{ desc:=.int .u64 }),
 (45,{ desc:=.slice 64,esz:=1 }),
 (25,{ desc:=.slice 4,esz:=1 }),
 (26,{ desc:=.slice 3,esz:=1 }),
 (105,{ desc:=.slice 5,esz:=1 }),
 (44,{ desc:=.slice 64,esz:=1 }),
 (59,{ desc:=.slice 147,esz:=3 }),
 (58,{ desc:=.slice 147,esz:=3 }),
 (95,{ desc:=.slice 59,esz:=1 }),
 (27,{ desc:=.slice 26,esz:=1 }),
 (28,{ desc:=.slice 95,esz:=1 }),
 (51,{ desc:=.slice 208,esz:=3 }),
 (31,{ desc:=.slice 134,esz:=3 }),
 (72,{ desc:=.slice 78,esz:=3 }),
 (52,{ desc:=.slice 72,esz:=1 }),
 (53,{ desc:=.slice 228,esz:=1 }),
 (156,{ desc:=.slice 213,esz:=1 }),
 (157,{ desc:=.slice 221,esz:=1 }),
 (214,{ desc:=.slice 271,esz:=2 }),
 (314,{ desc:=.slice 320,esz:=1 }),
 (311,{ desc:=.slice 314,esz:=1 }),
 (315,{ desc:=.slice 334,esz:=2 }),
 (349,{ desc:=.slice 45,esz:=1 }),
 (147,{ desc:=.invalid,size:=3,offs:=[0,1,2] }),
 (130,{ desc:=.invalid,size:=2,offs:=[0,1] }),
 (134,{ desc:=.invalid,size:=3,offs:=[0,1] }),
 (33,{ desc:=.invalid,size:=5,offs:=[0,1,2,3,4] }),
 (55,{ desc:=.invalid,size:=5,offs:=[0,1,2,3,4] }),
 (30,{ desc:=.invalid,size:=6,offs:=[0,1,2,3,4,5] }),
 (116,{ desc:=.invalid,size:=5,offs:=[0,1,2,3,4] }),
 (208,{ desc:=.invalid,size:=3,offs:=[0,1,2] }),
 (151,{ desc:=.invalid,size:=2,offs:=[0,1] }),
 (76,{ desc:=.invalid,size:=2,offs:=[0,1] }),
 (230,{ desc:=.invalid,size:=4,offs:=[0,3] }),
 (232,{ desc:=.invalid,size:=9,offs:=[0,4,5,6,7,8] }),
 (78,{ desc:=.invalid,size:=3,offs:=[0,1] }),
 (271,{ desc:=.invalid,size:=2,offs:=[0,1] }),
 (159,{ desc:=.invalid,size:=10,offs:=[0,5,6,7,8,9] }),
 (241,{ desc:=.invalid,size:=9,offs:=[0,5,6,7,8] }),
 (313,{ desc:=.invalid,size:=4,offs:=[0,1,2,3] }),
 (334,{ desc:=.invalid,size:=2,offs:=[0,1] }),
 (317,{ desc:=.invalid,size:=1,offs:=[0] }),
 (337,{ desc:=.invalid,size:=2,offs:=[0,1] }),
 (340,{ desc:=.invalid,size:=69,offs:=[0,1,2,4,68] }),
 (234,{ desc:=.pointer 241 }),
 (74,{ desc:=.pointer 232 }),
 (212,{ desc:=.pointer 159 }),
 (224,{ desc:=.pointer 78 }),
 (310,{ desc:=.pointer 313 }),
 (320,{ desc:=.pointer 340 }),
 (329,{ desc:=.pointer 3 }),
 (350,{ desc:=.pointer 325 }),
 (204,{ desc:=.array 32 3,size:=32,esz:=1 }),
 (205,{ desc:=.array 32 64,size:=32,esz:=1 }),
 (338,{ desc:=.array 32 337,size:=64,esz:=2 }),
 (345,{ desc:=.array 24 5,size:=24,esz:=1 }),
 (254,{ desc:=.func #[59] #[4] false }),
 (228,{ desc:=.map 9 3 }),
 (213,{ desc:=.map 9 4 }),
 (221,{ desc:=.map 9 45 }),
 (239,{ desc:=.map 3 76 }),
 (276,{ desc:=.func #[74] #[3] false })]
theorem Jjk: TOk Tryz.prog tt:=⟨⟨kr,kr⟩,
 ⟨kr,kr⟩,
 ⟨kr,kr⟩,
 ⟨kr,kr⟩,
 ⟨kr,kr⟩,
 ⟨kr,kr⟩,
 ⟨kr,kr⟩,
 ⟨kr,kr⟩,
 ⟨kr,kr⟩,
 ⟨kr,kr⟩,
 ⟨kr,kr⟩,
 ⟨kr,kr⟩,
 ⟨kr,kr,kr⟩,
 ⟨kr,kr,kr⟩,
 ⟨kr,kr,kr⟩,
 ⟨kr,kr,kr⟩,
 ⟨kr,kr,kr⟩,
 ⟨kr,kr,kr⟩,
 ⟨kr,kr,kr⟩,
 ⟨kr,kr,kr⟩,
 ⟨kr,kr,kr⟩,
 ⟨kr,kr,kr⟩,
 ⟨kr,kr,kr⟩,
 ⟨kr,kr,kr⟩,
 ⟨kr,kr,kr⟩,
 ⟨kr,kr,kr⟩,
 ⟨kr,kr,kr⟩,
 ⟨kr,kr,kr⟩,
 ⟨kr,kr,kr⟩,
 ⟨kr,kr,kr⟩,
 ⟨kr,kr,kr⟩,
 ⟨kr,kr,kr⟩,
 ⟨kr,kr,kr⟩,
 ⟨kr,kr,kr⟩,
 ⟨_,Tryz.underlying147,kr,kr⟩,
 ⟨_,Tryz.underlying130,kr,kr⟩,
 ⟨_,Tryz.underlying134,kr,kr⟩,
 ⟨_,Tryz.underlying33,kr,kr⟩,
 ⟨_,Tryz.underlying55,kr,kr⟩,
 ⟨_,Tryz.underlying30,kr,kr⟩,
 ⟨_,Tryz.underlying116,kr,kr⟩,
 ⟨_,Tryz.underlying208,kr,kr⟩,
 ⟨_,Tryz.underlying151,kr,kr⟩,
 ⟨_,Tryz.underlying76,kr,kr⟩,
 ⟨_,Tryz.underlying230,kr,kr⟩,
 ⟨_,Tryz.underlying232,kr,kr⟩,
 ⟨_,Tryz.underlying78,kr,kr⟩,
 ⟨_,Tryz.underlying271,kr,kr⟩,
 ⟨_,Tryz.underlying159,kr,kr⟩,
 ⟨_,Tryz.underlying241,kr,kr⟩,
 ⟨_,Tryz.underlying313,kr,kr⟩,
 ⟨_,Tryz.underlying334,kr,kr⟩,
 ⟨_,Tryz.underlying317,kr,kr⟩,
 ⟨_,Tryz.underlying337,kr,kr⟩,
 ⟨_,Tryz.underlying340,kr,kr⟩,
 ⟨kr,kr⟩,
 ⟨kr,kr⟩,
 ⟨kr,kr⟩,
 ⟨kr,kr⟩,
 ⟨kr,kr⟩,
 ⟨kr,kr⟩,
 ⟨kr,kr⟩,
 ⟨kr,kr⟩,
 ⟨kr,kr,kr⟩,
 ⟨kr,kr,kr⟩,
 ⟨kr,kr,kr⟩,
 ⟨kr,kr,kr⟩,
 ⟨kr,kr⟩,
 ⟨kr,kr⟩,
 ⟨kr,kr⟩,
 ⟨kr,kr⟩,
 ⟨kr,kr⟩,
 ⟨kr,kr⟩,trivial⟩
theorem mixed: Tryz.prog.follows .mixedOrders=true:=kr
instance:Tab Tryz.prog tt:=⟨Jjk,mixed⟩
theorem EN: ElT Tryz.prog 45 64 1 4 (.int .u32 0):=⟨Tryz.underlying45,info_parts kr,rfl,by decide⟩
theorem EV: ElT Tryz.prog 59 147 3 32 (.agg #[.int .i64 0,.int .i64 0,.string ⟨#[]⟩]):=⟨Tryz.underlying59,info_parts kr,rfl,by decide⟩
theorem ER: ElT Tryz.prog 95 59 1 24 (.slice none 0 0):=⟨Tryz.underlying95,info_parts kr,rfl,by decide⟩
theorem bsN(x y:Int)(w:World): (Instr.buildSlice 45 2 #[(0,.int .u32 x),(1,.int .u32 y)]).run Tryz.prog w=.ok (.slice (some ⟨w.heap.size,0,none⟩) 2 2) (w.alloc (.cells #[.int .u32 x,.int .u32 y] 64)):=kr
open Go.RowKit Pl Go.Wk _root_.Go.Proofs.Tryz
attribute [local irreducible] WC WL QX WD WDB
variable {l:List UInt32}{c k m n:Nat}{A:Option Addr}{a b:UInt32}{u v:Value}{w:World}
def Nc(l:List UInt32): List Value:=l.map λc=>.int .u32 (c.toNat:Int)
theorem Qyg(l:List UInt32): (Nc l).length=l.length:=by simp[Nc]
theorem Zf(h:k<l.length): (Nc l)[k]?=some (.int .u32 ((l.getD k 0).toNat:Int)):=by simp[Nc,List.getD,List.getElem?_eq_getElem h]
theorem Xvb(l:List UInt32)(k:Nat): (Nc l).take k=Nc (l.take k):=by simp[Nc]
theorem Jcm(l:List UInt32): ∀ u∈Nc l,u.oneCell'=true:=by
 intro u i;simp[Nc]at i;obtain⟨c,_,rfl⟩:=i;rfl
def NatV(w:World)(v:Value)(n:Nat): Prop:=∃ A c,v=.slice A (Jq n).length c/\(Jq n).length<=c/\(Jq n).length<=4611686018427387904/\Rd w 1 A (Jq n).length (Nc (Jq n))
theorem NatV.ext{w w':World}{v:Value}{n:Nat}(h:NatV w v n)(hx:Ext w w'): NatV w' v n:=by
 obtain⟨A,c,u,o,j,i⟩:=h;exact⟨A,c,u,o,j,i.ext hx⟩
theorem NatV.nil(w:World): NatV w (.slice none 0 0) 0:=⟨none,0,by rw[limbs_0];rfl,by rw[limbs_0];simp,by rw[limbs_0];simp,by rw[limbs_0];exact Rd.nil⟩
theorem Jdd: ∀ l:List UInt32,Xm l=l.take (Xm l).length
 | []=>rfl
 | c::l=>by
  simp only[Xm];split
  .rfl
  rw[List.length_cons,List.take_succ_cons,<-Jdd l]
theorem Jpr(l:List UInt32): (Xm l).length<=l.length:=by grind [List.length,Jdd,List.length_take]
theorem Jxh(hr:Rd w 1 A l.length (Nc l))(hm:l.length<=4611686018427387904): NatV w (.slice A (Jq (val l)).length (Jq (val l)).length) (val l):=by
 have h:=hr.take (m:=(Xm l).length) (Jpr l);rw[Nat.mul_one,Xvb,<-Jdd]at h;have:=Jpr l;rw[<-Ik];exact⟨A,(Xm l).length,by rw[<-Ik],by rw[<-Ik];exact nR _,by rw[<-Ik];omega,by grind [Ik]⟩
theorem Jjl(hr:Rd w 1 A l.length (Nc l))(hc:l.length<=c)(hm:l.length<=4611686018427387904):
  Ret prog 83 [.slice A l.length c] w λv w'=>v=.slice A (Jq (val l)).length (Jq (val l)).length/\w'=w:=by
 refine enE func83 ntmps83 ?_;refine ρ ?_;have u:∀ k,k<=l.length->Xm (l.take k)=Xm l->Xm (l.take k)=l.take k->k=(Jq (val l)).length:=λk o U O=>by grind [Ik,List.length_take]
 refine Qy (λk=>[(0,.slice A l.length c),(3,.int .i64 ((k:Nat):Int))]) (λk w'=>w'=w/\k<=l.length/\Xm (l.take k)=Xm l) (λk=>k) l.length sB ⟨rfl,Nat.le_refl _,by rw[List.take_length]⟩ ?_;rintro k w' ⟨rfl,o,hn⟩;have done:∀ k,k=(Jq (val l)).length->k<=l.length->(Value.slice A k k)=.slice A (Jq (val l)).length (Jq (val l)).length:=λk h _=>by rw[h]
 refine ρ ?_;refine ki 8 (λh=>?_) (λh=>?_)
 .have J:0<k:=by have:=oT h;omega
  have j:k-1<l.length:=om
  have C:l.take k=l.take (k-1)++[l.getD (k-1) 0]:=by grind [List.take_succ_eq_append_getElem,List.getD,List.getElem?_eq_getElem]
  refine ixR (k-1) hr j ?_;refine ldR (hr.cell (Zf j)) ?_;refine ciR (λh0=>?_) (λh0=>?_)
  .have G:l.getD (k-1) 0=0:=by
    have:=Zx h0;apply UInt32.toNat_inj.1
    grind
   refine ρ ?_;refine Qw (k-1) sO ⟨rfl,om,?_⟩ om;rw[<-hn,C,G,Jpq]
  have G:l.getD (k-1) 0≠0:=by
   have:=Xu h0;intro e;rw[e]at this;exact this rfl
  have i:=u k o hn (by grind [Qcg]);refine ρ ?_;refine Jvs Jjk 0 k k A k k rfl rfl rfl rfl rfl ⟨_,_,rfl,rfl⟩ ⟨_,_,rfl,rfl⟩ (.inr (by simp)) (Nat.zero_le _) (nR _) om (cut0 A _ _) rfl rfl rfl ?_;refine ρ ?_;exact Jj ⟨done k i o,rfl⟩
 have D:k=0:=by have:=oF h;omega
 subst D;have i:=u 0 o hn rfl;refine ρ ?_;refine Jvs Jjk 0 0 0 A 0 0 rfl rfl rfl rfl rfl ⟨_,_,rfl,rfl⟩ ⟨_,_,rfl,rfl⟩ (.inr (by simp)) (Nat.zero_le _) (nR _) om (cut0 A _ _) rfl rfl rfl ?_;refine ρ ?_;exact Jj ⟨done 0 i o,rfl⟩
theorem Yu(h:NatV w v n): Ret prog 83 [v] w λv' w'=>(∃ A,v'=.slice A (Jq n).length (Jq n).length/\Rd w 1 A (Jq n).length (Nc (Jq n)))/\w'=w:=by
 obtain⟨A,c,rfl,o,j,i⟩:=h;refine(Jjl i o j).mono ?_;grind [Va]
theorem Gj(n:Nat): IntKind.u32.wrap (n:Int)=((UInt32.ofNat n).toNat:Int):=by
 rw[UInt32.toNat_ofNat',IntKind.wrap_u32];omega
theorem Jpp(n:Nat): IntKind.u32.wrap ((n:Int).fdiv (2^min (32:Int).toNat IntKind.u64.bits))=((UInt32.ofNat (n / 4294967296)).toNat:Int):=by
 have e:(2:Int)^min (32:Int).toNat IntKind.u64.bits=((4294967296:Nat):Int):=by decide
 rw[e,Int.fdiv_eq_ediv_of_nonneg _ (Int.natCast_nonneg _),UInt32.toNat_ofNat',IntKind.wrap_u32];omega
theorem Jpj(n:Nat)(h:n<18446744073709551616): val [UInt32.ofNat n,UInt32.ofNat (n / 4294967296)]=n:=by grind [val,UInt32.toNat_ofNat']
theorem Jzg(n:Nat)(h:n<18446744073709551616)(w:World): Ret prog 28 [.int .u64 (n:Int)] w λv w'=>NatV w' v n/\Ext w w':=by
 refine enE func28 ntmps28 ?_;refine ρ ?_;refine Yo rfl rfl (by decide) rfl ?_;refine Qk (bsN _ _) ?_;intro u b j C i;rw[Gj,Jpp]at i;have o:Rd u 1 (some ⟨b,0,none⟩) 2 (Nc [UInt32.ofNat n,UInt32.ofNat (n / 4294967296)]):=i.rd rfl;refine clR (Jjl (l:=[UInt32.ofNat n,UInt32.ofNat (n / 4294967296)]) (c:=2) o (nR _) (by simp)) ?_;rintro v D ⟨rfl,rfl⟩;have:=Jxh o (by simp);rw[Jpj n h]at this ⊢;refine ρ ?_;exact Jj ⟨this,j⟩
def sgn(a b:Int): Int:=if a<b then -1 else if b<a then 1 else 0
theorem Qqz(x:Int)(w:World): Ret prog 137 [.int .i64 x] w λv w'=>v=.bool false/\w'=w:=by
 refine enE func137 ntmps137 ?_;refine ρ ?_;refine Jj ⟨?_,rfl⟩;simp
theorem Qzs(x y:Int)(w:World): Ret prog 87 [.int .i64 x,.int .i64 y] w λv w'=>v=.int .i64 (sgn x y)/\w'=w:=by
 refine enE func87 ntmps87 ?_;refine clR (Qqz x w) ?_;rintro v w' ⟨rfl,rfl⟩;refine clR (Qqz y w') ?_;rintro v i ⟨rfl,rfl⟩;refine ciR (λh=>?_) (λh=>?_)
 .refine ρ ?_;refine Jj ⟨?_,rfl⟩;grind [sgn]
 refine ciR (λj=>?_) (λj=>?_)
 .refine ρ ?_;refine Jj ⟨?_,rfl⟩;grind [sgn]
 refine ρ ?_;refine Jj ⟨?_,rfl⟩;grind [sgn]
theorem Qqx(x:Int)(w:World): Ret prog 138 [.int .u32 x] w λv w'=>v=.bool false/\w'=w:=by
 refine enE func138 ntmps138 ?_;refine ρ ?_;refine Jj ⟨?_,rfl⟩;simp
theorem Xqg(x y:Int)(w:World): Ret prog 88 [.int .u32 x,.int .u32 y] w λv w'=>v=.int .i64 (sgn x y)/\w'=w:=by
 refine enE func88 ntmps88 ?_;refine clR (Qqx x w) ?_;rintro v w' ⟨rfl,rfl⟩;refine clR (Qqx y w') ?_;rintro v i ⟨rfl,rfl⟩;refine ciR (λh=>?_) (λh=>?_)
 .refine ρ ?_;refine Jj ⟨?_,rfl⟩;grind [sgn]
 refine ciR (λj=>?_) (λj=>?_)
 .refine ρ ?_;refine Jj ⟨?_,rfl⟩;grind [sgn]
 refine ρ ?_;refine Jj ⟨?_,rfl⟩;grind [sgn]
theorem Qxb(x:Int)(w:World): Ret prog 228 [.int .i64 x] w λv w'=>v=.bool false/\w'=w:=by
 refine enE func228 ntmps228 ?_;refine ρ ?_;refine Jj ⟨?_,rfl⟩;simp
theorem Xqh(x y:Int)(w:World): Ret prog 207 [.int .i64 x,.int .i64 y] w λv w'=>v=.int .i64 (sgn x y)/\w'=w:=by
 refine enE func207 ntmps207 ?_;refine clR (Qxb x w) ?_;rintro v w' ⟨rfl,rfl⟩;refine clR (Qxb y w') ?_;rintro v i ⟨rfl,rfl⟩;refine ciR (λh=>?_) (λh=>?_)
 .refine ρ ?_;refine Jj ⟨?_,rfl⟩;grind [sgn]
 refine ciR (λj=>?_) (λj=>?_)
 .refine ρ ?_;refine Jj ⟨?_,rfl⟩;grind [sgn]
 refine ρ ?_;refine Jj ⟨?_,rfl⟩;grind [sgn]
theorem Jrx(n m:Nat): sgn (n:Int) (m:Int)=Yk n m:=by grind [sgn,Yk]
theorem Qcc(h:((a.toNat:Int) != (b.toNat:Int))=false): a=b:=by grind [UInt32.toNat_inj.1]
theorem Qcb(h:((a.toNat:Int) != (b.toNat:Int))=true): a.toNat≠b.toNat:=by grind
theorem Gk(hv:NatV w v n)(hu:NatV w u m): Ret prog 30 [v,u] w λr w'=>r=.int .i64 (Yk n m)/\Ext w w':=by
 have a1:=hv;have a2:=hu;obtain⟨_,_,_,_,a7,_⟩:=a1;obtain⟨_,_,_,_,a8,_⟩:=a2;refine enE func30 ntmps30 ?_;refine clR (Yu hv) ?_;rintro v' w' ⟨⟨A,rfl,ha⟩,rfl⟩;refine clR (Yu hu) ?_;rintro u' Z ⟨⟨B,rfl,hb⟩,rfl⟩;refine ciR (λh=>?_) (λh=>?_)
 .refine clR (Qzs _ _ _) ?_;rintro t U ⟨rfl,rfl⟩;refine ρ ?_;refine Jj ⟨?_,Ext.refl _⟩;grind [Jrx,Jq,Yk,Nat.lt_or_gt_of_ne,Qqd]
 have a5:(Jq n).length=(Jq m).length:=by grind
 refine ρ ?_;refine Qy (λk=>[(0,.slice A (Jq n).length (Jq n).length),(1,.slice B (Jq m).length (Jq m).length),(5,.int .i64 ((k:Nat)-1:Int))]) (λk w'=>Ext Z w'/\k<=(Jq n).length/\(Jq n).drop k=(Jq m).drop k) (λk=>k) (Jq n).length sB
  ⟨Ext.refl _,Nat.le_refl _,by grind⟩ ?_
 rintro k U ⟨hx,hk,hd⟩;refine ciR (λh=>?_) (λh=>?_)
 .have a4:0<k:=by have:=oT h;omega
  have C:k-1<(Jq n).length:=om
  have o:k-1<(Jq m).length:=om
  have j:=hx.trans ((Ext.refl U).drew);have O:=ha.ext j;have G:=hb.ext j;refine drR (scq 9 []) ?_;refine Jc (k-1) O C ?_;refine Jz (O.cell (Zf C)) ?_;refine Jc (k-1) G o ?_;refine Jz (G.cell (Zf o)) ?_;refine ρd ?_;refine ciR (λh=>?_) (λh=>?_)
  .have a6:=Qcb h;have i:=j.trans ((Ext.refl U.drew).drew);have J:=ha.ext i;have D:=hb.ext i;refine drR (scq 10 [8]) ?_;refine Jc (k-1) J C ?_;refine Jz (J.cell (Zf C)) ?_;refine Jc (k-1) D o ?_;refine Jz (D.cell (Zf o)) ?_;refine Jh (Xqg _ _ _) ?_;rintro t w2 ⟨rfl,rfl⟩;refine⟨Ext.refl _,?_⟩;refine ρd ?_;refine ρ ?_;refine Jj ⟨?_,i⟩;grind [Jrx,Yk,Jq,Nat.lt_or_gt_of_ne,Qbw,Va]
  have he:=Qcc h;refine ρ ?_;refine Qw (k-1) sO ⟨j,om,?_⟩ om;grind [List.drop_eq_getElem_cons,Jq,List.getD,List.getElem?_eq_getElem]
 have a3:k=0:=by have:=oF h;omega
 subst a3;have:n=m:=by grind [Va,val]
 subst this;refine ρ ?_;refine Jj ⟨?_,hx⟩;simp[Yk]
end Go.Proofs.YtgobkbeokaaplaaGreatDoor
namespace Go.Wk
open Go.RowKit
variable {c e m t t2:Nat}
section
variable {P:Program} {n:Nat} {al:AL} {w:World} {Q:Exit->Act->World->Prop} {ops:Array Oper} {rest:List Oper}
variable {d ty:Nat} {op:Op} {pos:String} {aft:Array Edge} {tt:TT}
theorem Jjr[h:Tab P tt]{x:Operand}{k:TK}{A:Option Addr}(kk:WL P n ops Q rest ((d,.bool A.isNone)::al) w)(ht:tk tt t=some k:=by rfl)(hk:k.desc=.slice e:=by rfl)(hx:ev al x=some (.slice A m c):=by rfl)(hd:Nat.blt d n=true:=by rfl): WL P n ops Q (⟨some d,.binOp .eql t x (.const (.slice none 0 0)) t2,ty,pos,aft,none⟩::rest) al w :=
 wop hd (λa j=>by
  have i:=(Iy h.ok ht hk rfl).1;have o:a.eval (.const (.slice none 0 0))=.slice none 0 0:=rfl;simp[execOp,j.ev hx,o,eqGuard,binOp,run_equal_slice_nil w t e A m c i]) kk
end
end Go.Wk
namespace Go.Proofs.YtgobkbeokaaplaaGreatDoor
open Go.RowKit Pl Go.Wk _root_.Go.Proofs.Tryz
attribute [local irreducible] WC WL QX WD WDB
variable {cs:List Value}{c n:Nat}{A:Option Addr}{w:World}
theorem EB: ElT prog 25 4 1 1 (.bool false):=⟨underlying25,info_parts kr,rfl,by decide⟩
theorem EI: ElT prog 26 3 1 8 (.int .i64 0):=⟨underlying26,info_parts kr,rfl,by decide⟩
theorem Xxx(w:World): (Instr.buildSlice 25 0 #[]).run prog w=.ok (.slice (some ⟨w.heap.size,0,none⟩) 0 0) (w.alloc (.cells ([]:List Value).toArray 4)):=kr
theorem Qkr(hr:Rd w 1 A n cs)(h1:∀ u∈cs,u.oneCell'=true)(hb:n*1<=140737488355328):
  Ret prog 62 [.slice A n c] w λv w'=>(∃ A' c',v=.slice A' n c'/\n<=c'/\Rd w' 1 A' n cs/\∀ ad,A'=some ad->w.heap.size<=ad.block)/\Ext w w':=by
 refine enE func62 ntmps62 ?_;refine ρ ?_;refine Jjr ?_;refine ciR (λh=>?_) (λh=>?_)
 .have O:A=none:=by simpa using h
  subst O;have hn:n=0:=by
   rcases Nat.eq_zero_or_pos n with h0|h0
   .exact h0
   obtain⟨ad,U,_⟩:=hr.isome h0 om;cases U
  subst hn;refine ρ ?_;exact Jj ⟨⟨none,0,rfl,Nat.le_refl _,hr,λad e=>by cases e⟩,Ext.refl w⟩
 refine Qk Xxx ?_;intro w1 b j G D;refine ρ ?_;refine apo j EB (D.own (n:=0) G rfl (Nat.zero_le _)) (hr.ext j) h1 (by unfold maxLen;omega) om ?_;intro v2 w2 i C _ _;obtain⟨A2,Z,rfl,o,J⟩:=Jy i;refine ρ ?_;rw[Nat.zero_add]at i o ⊢;exact Jj ⟨⟨A2,Z,rfl,o,Rd.own i,λad e=>by subst e;exact(J ad.block rfl).1⟩,C⟩
theorem Jqt(w:World): (Instr.buildSlice 59 0 #[]).run prog w=.ok (.slice (some ⟨w.heap.size,0,none⟩) 0 0) (w.alloc (.cells ([]:List Value).toArray 147)):=kr
theorem Xxw(w:World): (Instr.buildSlice 26 0 #[]).run prog w=.ok (.slice (some ⟨w.heap.size,0,none⟩) 0 0) (w.alloc (.cells ([]:List Value).toArray 3)):=kr
theorem Qwj(w:World): (Instr.buildSlice 45 0 #[]).run prog w=.ok (.slice (some ⟨w.heap.size,0,none⟩) 0 0) (w.alloc (.cells ([]:List Value).toArray 64)):=kr
theorem Qkq(hr:Rd w 1 A n cs)(h1:∀ u∈cs,u.oneCell'=true)(hb:n*4<=140737488355328):
  Ret prog 64 [.slice A n c] w λv w'=>(∃ A' c',v=.slice A' n c'/\n<=c'/\Rd w' 1 A' n cs)/\Ext w w':=by
 refine enE func64 ntmps64 ?_;refine ρ ?_;refine Jjr ?_;refine ciR (λh=>?_) (λh=>?_)
 .have J:A=none:=by simpa using h
  subst J;have hn:n=0:=by
   rcases Nat.eq_zero_or_pos n with h0|h0
   .exact h0
   obtain⟨ad,O,_⟩:=hr.isome h0 om;cases O
  subst hn;refine ρ ?_;exact Jj ⟨⟨none,0,rfl,Nat.le_refl _,hr⟩,Ext.refl w⟩
 refine Qk Qwj ?_;intro w1 b j G D;refine ρ ?_;refine apo j EN (D.own (n:=0) G rfl (Nat.zero_le _)) (hr.ext j) h1 (by unfold maxLen;omega) om ?_;intro v2 w2 i C _ _;obtain⟨Z,U,rfl,o,_⟩:=Jy i;refine ρ ?_;rw[Nat.zero_add]at i o ⊢;exact Jj ⟨⟨Z,U,rfl,o,Rd.own i⟩,C⟩
open Go.RowKit Pl Go.Wk
variable {a n:Nat}{v:Value}{w:World}
theorem Jbg(hv:NatV w v n)(hs:(Jq n).length<=1000): Ret Tryz.prog 86 [v] w λr w'=>NatV w' r n/\Ext w w':=by
 refine enE Tryz.func86 Tryz.ntmps86 ?_;refine clR (Yu hv) ?_;rintro i w' ⟨⟨A,rfl,C⟩,rfl⟩;refine clR (Qkq C (Jcm _) om) ?_;rintro i J ⟨⟨G,D,rfl,u,o⟩,j⟩;refine ρ ?_;exact Jj ⟨⟨G,D,rfl,u,om,o⟩,j⟩
theorem Jrn(h:n<18446744073709551616): (Jq n).length<=2:=by grind [Nat.lt_or_ge,Jq,limbs_0,Jgs,Nat.pow_le_pow_right]
theorem Qmg(k:Nat)(hk:k<2)(h:a<4294967296^k)(c:UInt32): bits .or .u64 (a:Int) (IntKind.u64.wrap (IntKind.u64.wrap (c.toNat:Int)*2^min (32*(k:Int)).toNat IntKind.u64.bits))=((a+4294967296^k*c.toNat:Nat):Int):=by
 have D:c.toNat<4294967296:=c.toNat_lt;have j:IntKind.u64.wrap (c.toNat:Int)=(c.toNat:Int):=by rw[IntKind.wrap_u64];omega
 rw[j];match k,hk with
 | 0,_=>
  have o:a=0:=by simpa using h
  subst o;have i:(2:Int)^min (32*((0:Nat):Int)).toNat IntKind.u64.bits=1:=by decide
  rw[i,Int.mul_one,j];have:=u64_or_nat 0 c.toNat om om;grind
 | 1,_=>
  have i:(2:Int)^min (32*((1:Nat):Int)).toNat IntKind.u64.bits=4294967296:=by decide
  have C:IntKind.u64.wrap ((c.toNat:Int)*4294967296)=((c.toNat*4294967296:Nat):Int):=by rw[IntKind.wrap_u64];omega
  have u:a<4294967296:=by simpa using h
  rw[i,C,u64_or_nat _ _ om om];have:=nat_join 32 (c.toNat*4294967296) a (by simp) u;grind
theorem Qnl(hv:NatV w v n)(h:n<18446744073709551616): Ret Tryz.prog 26 [v] w λr w'=>r=.tuple #[.int .u64 (n:Int),.bool true]/\w'=w:=by
 have O:=Jrn h;refine enE Tryz.func26 Tryz.ntmps26 ?_;refine clR (Yu hv) ?_;rintro J w' ⟨⟨A,rfl,D⟩,rfl⟩;refine ρ ?_;refine Jpd rfl (dF om) ?_;refine ρ ?_;refine Qy (λk=>[(4,.int .u64 ((val ((Jq n).take k):Nat):Int)),(0,.slice A (Jq n).length (Jq n).length),(12,.int .i64 ((Jq n).length:Int)),(13,.int .i64 ((k:Nat):Int))]) (λk C=>C=w'/\k<=(Jq n).length) (λk=>(Jq n).length-k) 0 sB ⟨rfl,Nat.zero_le _⟩ ?_;rintro k C ⟨rfl,U⟩;refine ciR (λh=>?_) (λh=>?_)
 .have i:k<(Jq n).length:=by have:=oT h;omega
  refine ixR k D i ?_;refine ldR (D.cell (Zf i)) ?_;refine ρ ?_;refine wshl rfl rfl om rfl ?_;refine ρ ?_;have j:=Jyd ((Jq n).take k);have o:((Jq n).take k).length=k:=by rw[List.length_take];omega
  rw[o]at j;have G:(Jq n).take (k+1)=(Jq n).take k++[(Jq n).getD k 0]:=by grind [List.take_succ_eq_append_getElem,List.getD,List.getElem?_eq_getElem]
  refine Qw (k+1) (Sub.cons (congrArg (λz=>some (Value.int .u64 z)) ?_) sB) ⟨rfl,om⟩ om;grind [Qmg,Iq,val]
 have u:k=(Jq n).length:=by have:=oF h;omega
 subst u;refine ρ ?_;refine Vc ⟨?_,rfl⟩;rw[List.take_length,Va]
open Go.RowKit Pl Go.Wk
variable {a b os:List UInt32}{c i m n s x y:Nat}{u v:Value}{w:World}
theorem Ux(z:Value)(n:Nat): (madeCells #[z] n).toList=List.replicate n z:=by
 unfold madeCells;apply List.ext_getElem
 repeat grind
theorem Jms(n:Nat): List.replicate n (Value.int .u32 0)=Nc (List.replicate n 0):=by simp[Nc]
theorem Jkg(l:List UInt32)(i:Nat)(c:UInt32): (Nc l).set i (.int .u32 (c.toNat:Int))=Nc (l.set i c):=by simp[Nc,List.map_set]
theorem Xwl(hx:x<4294967296)(hc:c<=1): IntKind.u64.wrap ((c:Int)+IntKind.u64.wrap (x:Int))=((c+x:Nat):Int):=by
 simp only[IntKind.wrap_u64];omega
theorem Jdr(n:Nat): (n:Int).fdiv (2^min (32:Int).toNat IntKind.u64.bits)=((n / 4294967296:Nat):Int):=by
 have e:(2:Int)^min (32:Int).toNat IntKind.u64.bits=((4294967296:Nat):Int):=by decide
 grind
def AddInv(a b:List UInt32)(i c:Nat)(os:List UInt32): Prop:=os.length=i/\c<=1/\val os+4294967296^i*c=val (a.take i)+val (b.take i)
theorem Jkm: val (a.take (i+1))=val (a.take i)+4294967296^i*(a.getD i 0).toNat:=by
 rcases Nat.lt_or_ge i a.length with h|h
 .grind [List.take_succ_eq_append_getElem,List.getD,List.getElem?_eq_getElem,Iq,List.length_take,Nat.min_eq_left,val]
 rw[List.take_of_length_le om,List.take_of_length_le h];have:a.getD i 0=0:=by grind
 rw[this];simp
theorem AddInv.step(h:AddInv a b i c os)(hs:s=c+(a.getD i 0).toNat+(b.getD i 0).toNat): AddInv a b (i+1) (s / 4294967296) (os++[UInt32.ofNat s]):=by
 obtain⟨j,D,C⟩:=h;have u:(a.getD i 0).toNat<4294967296:=(a.getD i 0).toNat_lt;have o:(b.getD i 0).toNat<4294967296:=(b.getD i 0).toNat_lt;refine⟨by simp[j],om,?_⟩;rw[Iq,j,Jkm,Jkm];simp only[val,UInt32.toNat_ofNat'];have e:4294967296^(i+1)*(s / 4294967296)=4294967296^i*(4294967296*(s / 4294967296)):=by grind
 rw[e];have G:4294967296^i*(s % 2^32+4294967296*0)+4294967296^i*(4294967296*(s / 4294967296))=4294967296^i*s:=by
  rw[<-Nat.mul_add];congr 1;omega
 grind
theorem Jds(os:List UInt32)(r:Nat)(c:UInt32): (os++List.replicate (r+1) 0).set os.length c=(os++[c])++List.replicate r 0:=by grind
theorem Xwk(hs:s<9223372036854775808)(hy:y<4294967296): IntKind.u64.wrap ((s:Int)+IntKind.u64.wrap (y:Int))=((s+y:Nat):Int):=by
 simp only[IntKind.wrap_u64];omega
abbrev Vf(w:World)(base:Nat)(v:Value)(l:List UInt32): Prop:=w.ownsRow base 64 1 v l.length (Nc l)
def Fresh(w:World)(v:Value): Prop:=∀ ad n c,v=.slice (some ad) n c->w.heap.size<=ad.block
theorem NatV.grown{w w':World}{v:Value}{n:Nat}{g:Option Nat}(h:NatV w v n)(hg:w.grownBy w' g)(hf:∀ ad m c,v=.slice (some ad) m c->some ad.block≠g): NatV w' v n:=by
 obtain⟨A,c,rfl,o,j,i⟩:=h;exact⟨A,c,rfl,o,j,Rd.grown i hg (λad e=>Ne.symm (hf ad _ _ (by rw[e])))⟩
theorem Ih(hv:NatV w v n)(hu:NatV w u m)(hln:(Jq n).length<=1000)(hlm:(Jq m).length<=1000): Ret Tryz.prog 115 [v,u] w λr w'=>NatV w' r (n+m)/\Fresh w r/\Ext w w':=by
 refine enE Tryz.func115 Tryz.ntmps115 ?_;refine clR (Yu hv) ?_;rintro v' w' ⟨⟨A,rfl,ha⟩,rfl⟩;refine clR (Yu hu) ?_;rintro u' a1 ⟨⟨B,rfl,hb⟩,rfl⟩;refine ρ ?_;refine Zv (λs:(Option Addr×Nat)×(Option Addr×Nat)=>[(0,.slice s.1.1 (Jq s.1.2).length (Jq s.1.2).length),(1,.slice s.2.1 (Jq s.2.2).length (Jq s.2.2).length)])
  (λs w'=>w'=a1/\(Jq s.2.2).length<=(Jq s.1.2).length/\s.1.2+s.2.2=n+m/\Rd a1 1 s.1.1 (Jq s.1.2).length (Nc (Jq s.1.2))/\Rd a1 1 s.2.1 (Jq s.2.2).length (Nc (Jq s.2.2))/\(Jq s.1.2).length<=1000) ?_ ?_
 .refine ci (λh=>?_) (λh=>?_)
  .refine ρ ?_;exact Jf ((B,m),(A,n)) sB ⟨rfl,by grind,Nat.add_comm _ _,hb,ha,hlm⟩
  refine ρ ?_;exact Jf ((A,n),(B,m)) sB ⟨rfl,by grind,rfl,ha,hb,hln⟩
 rintro⟨⟨A,x⟩,⟨B,y⟩⟩ w' ⟨rfl,ah,U,ha,hb,hl⟩;simp only at ah U ha hb hl;generalize hL:(Jq x).length=L at *
 refine ρ ?_;refine mkn EN (L+1) om (by unfold maxLen;omega) ?_;intro w1 O ab am hO;have a6:Vf w1 w'.heap.size (.slice O (L+1) (L+1)) ([]++List.replicate (L+1) 0):=by
  have e:(madeCells (Value.int .u32 0).cells ((L+1)*1)).toList=Nc (List.replicate (L+1) 0):=by rw[Nat.mul_one,<-Jms];exact Ux _ _
  grind
 refine ρ ?_;refine Zq (fun (k c:Nat) (j:List UInt32)=>[(0,.slice A L L),(1,.slice B (Jq y).length (Jq y).length),(5,.slice O (L+1) (L+1)),(6,.int .u64 (c:Int)),(24,.int .i64 (L:Int)),(25,.int .i64 (k:Int))])
  (λk c j J=>Ext w' J/\k<=L/\AddInv (Jq x) (Jq y) k c j/\Vf J w'.heap.size (.slice O (L+1) (L+1)) (j++List.replicate (L+1-k) 0)) (λk _ _=>L-k) 0 0 [] sB
  ⟨ab,Nat.zero_le _,⟨rfl,om,rfl⟩,a6⟩ ?_
 rintro k c j J ⟨G,hk,hI,a3⟩;have ac:=hI.1;have ak:=hI.2.1;have a8:=ha.ext G;have a7:=hb.ext G;refine ciR (λh=>?_) (λh=>?_)
 .have ag:k<L:=by have:=oT h;omega
  have af:((Jq x).getD k 0).toNat<4294967296:=((Jq x).getD k 0).toNat_lt;have ae:((Jq y).getD k 0).toNat<4294967296:=((Jq y).getD k 0).toNat_lt;have i:(j++List.replicate (L+1-k) (0:UInt32)).length=L+1:=by simp;omega
  have store:∀ s:Nat,J.cell? (adr O k)=(Nc (j++List.replicate (L+1-k) 0))[k]?/\J.frozen? (adr O k)=false /\
    Vf (J.setCell (adr O k) (.int .u32 ((UInt32.ofNat s).toNat:Int))) w'.heap.size (.slice O (L+1) (L+1)) ((j++[UInt32.ofNat s])++List.replicate (L+1-(k+1)) 0)/\Ext w' (J.setCell (adr O k) (.int .u32 ((UInt32.ofNat s).toNat:Int))):=λs=>by
   have C:=a3;rw[Vf,i]at C;obtain⟨s1,s2,D,s4,s5⟩:=Zn C (q:=k) om (.int .u32 ((UInt32.ofNat s).toNat:Int));refine⟨s1,s2,?_,G.setCell s4 _⟩;rw[Jkg,show L+1-k=(L-k)+1 by omega]at D;have e:=Jds j (L-k) (UInt32.ofNat s);grind
  have o:(Nc (j++List.replicate (L+1-k) 0))[k]?=some (.int .u32 (((j++List.replicate (L+1-k) 0).getD k 0).toNat:Int)):=Zf (by rw[i];omega);have a4:Rd J 1 O (L+1) (Nc (j++List.replicate (L+1-k) 0)):=by have h5:=a3;rw[Vf,i]at h5;exact Rd.own h5
  refine ixR k a8 ag ?_;refine ldR (a8.cell (Zf (show k<(Jq x).length by omega))) ?_;refine ρ ?_;rw[Xwl af ak];refine ci (λh=>?_) (λh=>?_)
  .have Z:k<(Jq y).length:=by have:=oT h;omega
   refine ixR k a7 Z ?_;refine ldR (a7.cell (Zf Z)) ?_;refine ixR k a4 om ?_;obtain⟨s1,s2,D,s4⟩:=store (c+((Jq x).getD k 0).toNat+((Jq y).getD k 0).toNat);rw[Xwk om ae,Gj];refine sto (s1.trans o) s2 ?_;refine ρ ?_;refine Yo rfl rfl (by decide) rfl ?_;refine ρ ?_;refine Xq (k+1) ((c+((Jq x).getD k 0).toNat+((Jq y).getD k 0).toNat) / 4294967296) (j++[UInt32.ofNat (c+((Jq x).getD k 0).toNat+((Jq y).getD k 0).toNat)]) ?_ ⟨s4,om,hI.step rfl,D⟩ om;rw[Jdr];exact sB
  have an:(Jq y).length<=k:=by have:=oF h;omega
  have a9:(Jq y).getD k 0=0:=by grind
  refine ixR k a4 om ?_;obtain⟨s1,s2,D,s4⟩:=store (c+((Jq x).getD k 0).toNat);rw[Gj];refine sto (s1.trans o) s2 ?_;refine ρ ?_;refine Yo rfl rfl (by decide) rfl ?_;refine ρ ?_;refine Xq (k+1) ((c+((Jq x).getD k 0).toNat) / 4294967296) (j++[UInt32.ofNat (c+((Jq x).getD k 0).toNat)]) ?_ ⟨s4,om,hI.step (by rw[a9];rfl),D⟩ om;rw[Jdr];exact sB
 have aj:k=L:=by have:=oF h;omega
 subst aj;have i:(j++List.replicate (k+1-k) (0:UInt32)).length=k+1:=by simp;omega
 have C:=a3;rw[Vf,i]at C;have o:(Nc (j++List.replicate (k+1-k) 0))[k]?=some (.int .u32 (((j++List.replicate (k+1-k) 0).getD k 0).toNat:Int)):=Zf (by rw[i];omega);obtain⟨s1,s2,D,s4,s5⟩:=Zn C (q:=k) om (.int .u32 ((UInt32.ofNat c).toNat:Int));rw[Jkg,show k+1-k=0+1 by omega]at D;have e:=Jds j 0 (UInt32.ofNat c);rw[ac,List.replicate_zero,List.append_nil]at e;rw[e]at D;have aa:=G.setCell s4 (.int .u32 ((UInt32.ofNat c).toNat:Int));refine ixR k (Rd.own C) om ?_;rw[Gj];refine sto (s1.trans o) s2 ?_;refine ρ ?_;have ai:(j++[UInt32.ofNat c]).length=k+1:=by simp;omega
 have a2:=Rd.own D;have a5:val (j++[UInt32.ofNat c])=n+m:=by
  obtain⟨i1,i2,i3⟩:=hI;rw[Iq,i1];simp only[val,UInt32.toNat_ofNat'];rw[<-U,<-Va x,<-Va y,<-List.take_of_length_le (show(Jq x).length<=k by omega),<-List.take_of_length_le (show(Jq y).length<=k by omega),<-i3,show c % 2^32+4294967296*0=c by omega]
 rw[<-ai]at a2 ⊢;refine cl (Jjl a2 (nR _) om) ?_;rintro t w4 ⟨rfl,rfl⟩;have:=Jxh a2 om;rw[a5]at this ⊢;refine ρ ?_;exact Jj ⟨this,λad _ _ e=>hO ad (by injection e),aa⟩
theorem Qjn(hv:NatV w v n)(hu:NatV w u m)(hln:(Jq n).length<=1000)(hlm:(Jq m).length<=1000): Ret Tryz.prog 115 [v,u] w λr w'=>NatV w' r (n+m)/\Ext w w' :=
 (Ih hv hu hln hlm).mono λ_ _ h=>⟨h.1,h.2.2⟩
open Go.RowKit Pl Go.Wk
variable {a b os:List UInt32}{c i m n s x y:Nat}{u v:Value}{w:World}
def dif(x c y:Nat): Nat:=(18446744073709551616+x-c-y) % 18446744073709551616
theorem Qdl(hx:x<4294967296)(hc:c<=1): IntKind.u64.wrap (IntKind.u64.wrap (x:Int)-(c:Int))=(dif x c 0:Int):=by
 unfold dif;simp only[IntKind.wrap_u64];omega
theorem Qdk(hx:x<4294967296)(hc:c<=1)(hy:y<4294967296): IntKind.u64.wrap ((dif x c 0:Int)-IntKind.u64.wrap (y:Int))=(dif x c y:Int):=by
 unfold dif;simp only[IntKind.wrap_u64];omega
theorem Jrv(n:Nat): (n:Int).fdiv (2^min (63:Int).toNat IntKind.u64.bits)=((n / 9223372036854775808:Nat):Int):=by
 have e:(2:Int)^min (63:Int).toNat IntKind.u64.bits=((9223372036854775808:Nat):Int):=by decide
 grind
theorem Xjs(hx:x<4294967296)(hc:c<=1)(hy:y<4294967296): dif x c y % 4294967296+y+c=x+4294967296*(dif x c y / 9223372036854775808)/\dif x c y / 9223372036854775808<=1:=by
 unfold dif;omega
def SubInv(a b:List UInt32)(i c:Nat)(os:List UInt32): Prop:=os.length=i/\c<=1/\val os+val (b.take i)=val (a.take i)+4294967296^i*c
theorem SubInv.step(h:SubInv a b i c os)(hs:s=dif (a.getD i 0).toNat c (b.getD i 0).toNat):
  SubInv a b (i+1) (s / 9223372036854775808) (os++[UInt32.ofNat s]):=by
 obtain⟨G,D,J⟩:=h;have C:(a.getD i 0).toNat<4294967296:=(a.getD i 0).toNat_lt;have u:(b.getD i 0).toNat<4294967296:=(b.getD i 0).toNat_lt;obtain⟨o,j⟩:=Xjs C D u;rw[<-hs]at o j;refine⟨by simp[G],j,?_⟩;grind [Iq,Jkm,val,UInt32.toNat_ofNat',Nat.pow_succ,Nat.mul_assoc,Nat.mul_add]
theorem Qjm(hv:NatV w v n)(hu:NatV w u m)(hln:(Jq n).length<=1000):
  Ret Tryz.prog 116 [v,u] w λr w'=>(∃ x,r=.tuple #[x,.int .i64 (if n<m then 19 else 0)]/\NatV w' x (n-m)/\Fresh w x)/\Ext w w':=by
 refine enE Tryz.func116 Tryz.ntmps116 ?_;refine clR (Yu hv) ?_;rintro v' w' ⟨⟨A,rfl,ha⟩,rfl⟩;refine clR (Yu hu) ?_;rintro u' ao ⟨⟨B,rfl,hb⟩,rfl⟩;have ah:(Jq m).length<=4611686018427387904:=by obtain⟨_,_,_,_,h,_⟩:=hu;exact h
 refine clR (Gk (n:=n) (m:=m) ⟨A,_,rfl,Nat.le_refl _,om,ha⟩ ⟨B,_,rfl,Nat.le_refl _,ah,hb⟩) ?_;rintro t w' ⟨rfl,j⟩;refine ciR (λh=>?_) (λh=>?_)
 .have U:n<m:=by
   have:=oT h;unfold Yk at this;grind
  refine ρ ?_;refine Vc ⟨⟨.slice none 0 0,?_,?_,λad _ _ e=>by cases e⟩,j⟩
  .rw[if_pos U]
  rw[show n-m=0 by omega];exact NatV.nil _
 have aj:m<=n:=by grind [Yk,Nat.lt_or_ge]
 have aq:(Jq m).length<=(Jq n).length:=by
  rcases Nat.lt_or_ge (Jq n).length (Jq m).length with h1|h1
  .have:=Qqd h1;omega
  exact h1
 have am:=ha.ext j;have ak:=hb.ext j;generalize hL:(Jq n).length=L at *
 refine ρ ?_;refine mkn EN L om (by unfold maxLen;omega) ?_;intro w1 O a2 ap hO;have an:=j.trans a2;have af:=j.size;have a8:Vf w1 w'.heap.size (.slice O L L) ([]++List.replicate L 0):=by
  have e:(madeCells (Value.int .u32 0).cells (L*1)).toList=Nc (List.replicate L 0):=by rw[Nat.mul_one,<-Jms];exact Ux _ _
  grind
 refine ρ ?_;refine Zq (fun (k c:Nat) (i:List UInt32)=>[(0,.slice A L L),(1,.slice B (Jq m).length (Jq m).length),(6,.slice O L L),(7,.int .u64 (c:Int)),(22,.int .i64 (L:Int)),(23,.int .i64 (k:Int))])
  (λk c i D=>Ext w' D/\k<=L/\SubInv (Jq n) (Jq m) k c i/\Vf D w'.heap.size (.slice O L L) (i++List.replicate (L-k) 0)) (λk _ _=>L-k) 0 0 [] sB
  ⟨a2,Nat.zero_le _,⟨rfl,om,rfl⟩,a8⟩ ?_
 rintro k c i D ⟨G,hk,hI,a7⟩;have a5:=hI.1;have aa:=hI.2.1;have ac:=am.ext G;have ab:=ak.ext G;refine ciR (λh=>?_) (λh=>?_)
 .have U:k<L:=by have:=oT h;omega
  have a9:((Jq n).getD k 0).toNat<4294967296:=((Jq n).getD k 0).toNat_lt;have ag:((Jq m).getD k 0).toNat<4294967296:=((Jq m).getD k 0).toNat_lt;have o:(i++List.replicate (L-k) (0:UInt32)).length=L:=by simp;omega
  have store:∀ s:Nat,D.cell? (adr O k)=(Nc (i++List.replicate (L-k) 0))[k]?/\D.frozen? (adr O k)=false /\
    Vf (D.setCell (adr O k) (.int .u32 ((UInt32.ofNat s).toNat:Int))) w'.heap.size (.slice O L L) ((i++[UInt32.ofNat s])++List.replicate (L-(k+1)) 0)/\Ext w' (D.setCell (adr O k) (.int .u32 ((UInt32.ofNat s).toNat:Int))):=λs=>by
   have a6:=a7;rw[Vf,o]at a6;obtain⟨s1,s2,s3,Z,s5⟩:=Zn a6 (q:=k) om (.int .u32 ((UInt32.ofNat s).toNat:Int));refine⟨s1,s2,?_,G.setCell Z _⟩;rw[Jkg,show L-k=(L-(k+1))+1 by omega]at s3;have e:=Jds i (L-(k+1)) (UInt32.ofNat s);grind
  have C:(Nc (i++List.replicate (L-k) 0))[k]?=some (.int .u32 (((i++List.replicate (L-k) 0).getD k 0).toNat:Int)):=Zf (by rw[o];omega);have a1:Rd D 1 O L (Nc (i++List.replicate (L-k) 0)):=by have h5:=a7;rw[Vf,o]at h5;exact Rd.own h5
  refine ixR k ac U ?_;refine ldR (ac.cell (Zf (show k<(Jq n).length by omega))) ?_;refine ρ ?_;rw[Qdl a9 aa];refine ci (λh=>?_) (λh=>?_)
  .have J:k<(Jq m).length:=by have:=oT h;omega
   refine ixR k ab J ?_;refine ldR (ab.cell (Zf J)) ?_;refine ixR k a1 om ?_;obtain⟨s1,s2,s3,Z⟩:=store (dif ((Jq n).getD k 0).toNat c ((Jq m).getD k 0).toNat);rw[Qdk a9 aa ag,Gj];refine sto (s1.trans C) s2 ?_;refine ρ ?_;refine Yo rfl rfl (by decide) rfl ?_;refine ρ ?_;refine Xq (k+1) (dif ((Jq n).getD k 0).toNat c ((Jq m).getD k 0).toNat / 9223372036854775808) (i++[UInt32.ofNat (dif ((Jq n).getD k 0).toNat c ((Jq m).getD k 0).toNat)]) ?_ ⟨Z,om,hI.step rfl,s3⟩ om;rw[Jrv];exact sB
  have aj:(Jq m).length<=k:=by have:=oF h;omega
  have ae:(Jq m).getD k 0=0:=by grind
  refine ixR k a1 om ?_;obtain⟨s1,s2,s3,Z⟩:=store (dif ((Jq n).getD k 0).toNat c 0);rw[Gj];refine sto (s1.trans C) s2 ?_;refine ρ ?_;refine Yo rfl rfl (by decide) rfl ?_;refine ρ ?_;refine Xq (k+1) (dif ((Jq n).getD k 0).toNat c 0 / 9223372036854775808) (i++[UInt32.ofNat (dif ((Jq n).getD k 0).toNat c 0)]) ?_ ⟨Z,om,hI.step (by rw[ae];rfl),s3⟩ om;rw[Jrv];exact sB
 have ai:k=L:=by have:=oF h;omega
 subst ai;have a4:Rd D 1 O i.length (Nc i):=by
  have:=Rd.own (show D.ownsRow w'.heap.size 64 1 (.slice O k k) k (Nc i) by grind);rw[a5];exact this
 have a3:val i=n-m:=by
  obtain⟨i1,i2,i3⟩:=hI;rw[List.take_of_length_le (show(Jq n).length<=k by omega),List.take_of_length_le (show(Jq m).length<=k by omega),Va,Va]at i3;have hv:=Jyd i;rw[i1]at hv;rcases Nat.eq_zero_or_pos c with h0|h0
  repeat grind
 refine ρ ?_;rw[<-a5];refine cl (Jjl a4 (nR _) om) ?_;rintro t w4 ⟨rfl,rfl⟩;have:=Jxh a4 om;rw[a3]at this ⊢;refine ρ ?_;refine Vc ⟨⟨_,?_,this,λad _ _ e=>nL af (hO ad (by injection e))⟩,j.trans G⟩;rw[if_neg om]
theorem Qnn(hv:NatV w v n)(hu:NatV w u m)(hln:(Jq n).length<=1000):
  Ret Tryz.prog 116 [v,u] w λr w'=>(∃ x,r=.tuple #[x,.int .i64 (if n<m then 19 else 0)]/\NatV w' x (n-m))/\Ext w w' :=
 (Qjm hv hu hln).mono λ_ _ ⟨⟨x,o,j,_⟩,i⟩=>⟨⟨x,o,j⟩,i⟩
end Go.Proofs.YtgobkbeokaaplaaGreatDoor
namespace Go.Proofs.YtgobkbeokaaplaaGreatDoor
namespace Pl
structure V where
 kind: Int
 num:Int
 str:ByteArray
def V.bytes(v:V): List UInt8:=v.str.data.toList
def V.cells(v:V): List Value:=[.int .i64 v.kind,.int .i64 v.num,.string v.str]
def V.val(v:V): Value:=.agg #[.int .i64 v.kind,.int .i64 v.num,.string v.str]
end Pl
open Go.RowKit Pl Go.Wk _root_.Go.Proofs.Tryz
attribute [local irreducible] WC WL QX WD WDB
def V0: V:=⟨0,0,⟨#[]⟩⟩
def Jp(r:List V): List Value:=r.flatMap V.cells
abbrev RdR(w:World)(A:Option Addr)(r:List V): Prop:=Rd w 3 A r.length (Jp r)
abbrev RdB(w:World)(A:Option Addr)(ds:List Bool): Prop:=Rd w 1 A ds.length (ds.map Value.bool)
theorem Jfj(r:List V): (Jp r).length=r.length*3:=by
 induction r with
 | nil=>rfl
 | cons v r ih=>simp only[Jp,List.flatMap_cons,List.length_append,V.cells,List.length_cons,List.length_nil]at ih ⊢;omega
theorem Jfk: ∀(r:List V) (i j:Nat),i<r.length->j<3->(Jp r)[i*3+j]?=(r.getD i V0).cells[j]?
 | [],i,j,h,_=>by simp at h
 | v::r,0,j,_,hj=>by
  simp only[Jp,List.flatMap_cons,Nat.zero_mul,Nat.zero_add,List.getD_cons_zero];grind [List.getElem?_append_left,V.cells]
 | v::r,i+1,j,h,hj=>by
  have ih:=Jfk r i j (by simpa using h) hj;grind [Jp,List.getD_cons_succ,List.getElem?_append_right,V.cells]
theorem RdR.cell{w:World}{A:Option Addr}{r:List V}(h:RdR w A r){i j:Nat}{u:Value}(hi:i<r.length)(hu:(r.getD i V0).cells[j]?=some u): w.cell? ((adr A (i*3)).add j)=some u:=by grind [List.getElem?_eq_some_iff.1,V.cells,Xe,Rd.cell,Jfk]
theorem RdB.cell{w:World}{A:Option Addr}{ds:List Bool}(h:RdB w A ds){i:Nat}(hi:i<ds.length): w.cell? (adr A i)=some (.bool (ds.getD i false)) :=
 Rd.cell h (by grind)
theorem V.one(v:V): ∀ u∈v.cells,u.oneCell'=true:=by
 intro u i;simp[V.cells]at i;rcases i with rfl|rfl|rfl<;>rfl
theorem Jyr(r:List V): ∀ u∈Jp r,u.oneCell'=true:=by
 intro u j;obtain⟨v,_,i⟩:=List.mem_flatMap.1 j;simp[V.cells]at i;rcases i with rfl|rfl|rfl<;>rfl
theorem Qgq(a b:List V): Jp (a++b)=Jp a++Jp b:=by simp[Jp]
def cmpV(a b:V): Int:=if a.kind≠b.kind then sgn a.kind b.kind else if a.num≠b.num then sgn a.num b.num else Lib.compareBytes a.bytes b.bytes
def neg(d:Bool)(c:Int): Int:=if d then -c else c
def Jw: List V->List V->List Bool->Int
 | [],[],_=>0
 | [],_::_,_=>-1
 | _::_,[],_=>1
 | x::a,y::b,ds=>if cmpV x y=0 then Jw a b (ds.drop 1) else neg (ds.getD 0 false) (cmpV x y)
theorem Xqj(a b:ByteArray)(w:World): Ret prog 229 [.string a,.string b] w λv w'=>v=.int .i64 (Lib.compareBytes a.data.toList b.data.toList)/\w'=w:=by
 refine enE func229 ntmps229 ?_;refine ρ ?_;refine wext (vs:=[.string a,.string b]) (v:=.int .i64 (Lib.compareBytes a.data.toList b.data.toList)) (w':=w) ?_ ?_
 .rw[run_callFunc_extern func249 kr kr kr (e:=Extern.BytealgCompare.compare) kr,Lib.run_compareString];rfl
 refine ρ ?_;exact Jj ⟨rfl,rfl⟩
theorem Qdm(a b:ByteArray)(w:World): Ret prog 208 [.string a,.string b] w λv w'=>v=.int .i64 (Lib.compareBytes a.data.toList b.data.toList)/\w'=w:=by
 refine enE func208 ntmps208 ?_;refine clR (Xqj a b w) ?_;rintro v w' ⟨rfl,rfl⟩;refine ρ ?_;exact Jj ⟨rfl,rfl⟩
theorem Jxf(a b:V)(w:World): Ret prog 184 [a.val,b.val] w λr w'=>r=.int .i64 (cmpV a b)/\Ext w w':=by
 refine enE func184 ntmps184 ?_;refine bxR ?_;intro Z b1 u O i;refine bxR ?_;intro U b2 o J j;have i:=i.ext o;have C:=u.trans o;refine ldR (i.at rfl) ?_;refine ldR (j.at rfl) ?_;refine ciR (λG=>?_) (λG=>?_)
 .refine ldR (i.at rfl) ?_;refine ldR (j.at rfl) ?_;refine clR (Qzs _ _ _) ?_;rintro t D ⟨rfl,rfl⟩;refine ρ ?_;refine Jj ⟨?_,C⟩;grind [cmpV]
 refine ldR (i.at rfl) ?_;refine ldR (j.at rfl) ?_;refine ciR (λhn=>?_) (λhn=>?_)
 .refine ldR (i.at rfl) ?_;refine ldR (j.at rfl) ?_;refine clR (Xqh _ _ _) ?_;rintro t D ⟨rfl,rfl⟩;refine ρ ?_;refine Jj ⟨?_,C⟩;grind [cmpV]
 refine ldR (i.at rfl) ?_;refine ldR (j.at rfl) ?_;refine clR (Qdm _ _ _) ?_;rintro t D ⟨rfl,rfl⟩;refine ρ ?_;refine Jj ⟨?_,C⟩;rw[cmpV,if_neg (by simpa using G),if_neg (by simpa using hn)];rfl
end Go.Proofs.YtgobkbeokaaplaaGreatDoor
namespace Go.Proofs.YtgobkbeokaaplaaGreatDoor
open Pl
variable {α β:Type}
structure PreC{α:Type}(f:α->α->Int): Prop where
 anti:∀ a b,f b a = - f a b
 trans:∀ a b c,f a b<=0->f b c<=0->f a c<=0
theorem PreC.refl{f:α->α->Int}(h:PreC f)(a:α): f a a=0:=by have:=h.anti a a;omega
structure Cmp{α:Type}(f:α->α->Int): Prop where
 anti:∀ a b,f b a = - f a b
 zero:∀ a b,f a b=0->a=b
 trans:∀ a b c,f a b<=0->f b c<=0->f a c<=0
theorem Cmp.pre{f:α->α->Int}(h:Cmp f)(g:β->α): PreC λa b=>f (g a) (g b):=⟨λa b=>h.anti _ _,λa b c=>h.trans _ _ _⟩
section
variable {α:Type} {f:α->α->Int}
theorem Cmp.refl(h:Cmp f)(a:α): f a a=0:=by have:=h.anti a a;omega
theorem Cmp.lt_le(h:Cmp f){a b c:α}(h1:f a b<0)(h2:f b c<=0): f a c<0:=by
 have i:=h.trans a b c om h2;rcases Int.lt_or_eq_of_le i with h4|h4
 .exact h4
 have:=h.zero _ _ h4;subst this;have:=h.anti a b;omega
theorem Cmp.le_lt(h:Cmp f){a b c:α}(h1:f a b<=0)(h2:f b c<0): f a c<0:=by
 have i:=h.trans a b c h1 om;rcases Int.lt_or_eq_of_le i with h4|h4
 .exact h4
 have:=h.zero _ _ h4;subst this;have:=h.anti a b;omega
theorem Cmp.lt_trans(h:Cmp f){a b c:α}(h1:f a b<0)(h2:f b c<0): f a c<0:=h.lt_le h1 om
theorem Cmp.tot(h:Cmp f)(a b:α): f a b<0∨a=b∨f b a<0:=by
 have i:=h.anti a b;rcases Int.lt_trichotomy (f a b) 0 with h2|h2|h2
 .exact .inl h2
 .exact .inr (.inl (h.zero _ _ h2))
 repeat grind
theorem Cmp.flip(h:Cmp f): Cmp λa b=>- f a b :=
 ⟨λa b=>by rw[h.anti a b],λa b h0=>h.zero a b om,λa b c j i=>by
  have C:=h.anti a b;have u:=h.anti b c;have o:=h.anti a c;have:=h.trans c b a om om;omega⟩
end
theorem cmp_sgn: Cmp sgn:=by
 refine⟨λa b=>?_,λa b h=>?_,λa b c j i=>?_⟩
 .unfold sgn;split<;>split<;>omega
 .unfold sgn at h;split at h;repeat grind
 repeat grind [sgn]
theorem Jsb(a b:Int): sgn a b = -1∨sgn a b=0∨sgn a b=1:=by
 unfold sgn;grind
theorem Qwb: ∀ x y:List UInt8,Lib.compareBytes y x = - Lib.compareBytes x y
 | [],[]=>rfl
 | [],_::_=>rfl
 | _::_,[]=>rfl
 | a::x,b::y=>by
  simp only[Lib.compareBytes];have ih:=Qwb x y;grind
theorem Qkw: ∀ x y:List UInt8,Lib.compareBytes x y=0->x=y
 | [],[],_=>rfl
 | [],_::_,h=>by simp[Lib.compareBytes]at h
 | _::_,[],h=>by simp[Lib.compareBytes]at h
 | a::x,b::y,h=>by
  simp only[Lib.compareBytes,UInt8.lt_iff_toNat_lt]at h;split at h
  .cases h
  split at h
  .cases h
  rw[Qkw x y h,UInt8.toNat_inj.1 (show a.toNat=b.toNat by omega)]
theorem Qkx: ∀ x y z:List UInt8,Lib.compareBytes x y<=0->Lib.compareBytes y z<=0->Lib.compareBytes x z<=0
 | [],_,[],_,_=>by simp[Lib.compareBytes]
 | [],_,_::_,_,_=>by simp[Lib.compareBytes]
 | _::_,[],_,h,_=>by simp[Lib.compareBytes]at h
 | _::_,_::_,[],_,h=>by simp[Lib.compareBytes]at h
 | a::x,b::y,c::z,h1,h2=>by
  simp only[Lib.compareBytes,UInt8.lt_iff_toNat_lt]at *;split at h1
  .grind
  split at h1
  .grind
  split at h2
  .grind
  split at h2
  .grind
  rw[if_neg om,if_neg om];exact Qkx x y z h1 h2
theorem cb_3: ∀ x y:List UInt8,Lib.compareBytes x y = -1∨Lib.compareBytes x y=0∨Lib.compareBytes x y=1
 | [],[]=>by simp[Lib.compareBytes]
 | [],_::_=>by simp[Lib.compareBytes]
 | _::_,[]=>by simp[Lib.compareBytes]
 | a::x,b::y=>by
  simp only[Lib.compareBytes];split
  .simp
  split
  .simp
  exact cb_3 x y
theorem V.ext{a b:V}(h1:a.kind=b.kind)(h2:a.num=b.num)(h3:a.bytes=b.bytes): a=b:=by
 obtain⟨k,n,s⟩:=a;obtain⟨o,j,i⟩:=b;simp only[V.bytes]at *;obtain⟨d⟩:=s;obtain⟨u⟩:=i;simp only at h1 h2 h3;rw[h1,h2,Array.toList_inj.1 h3]
theorem Jym{a b:Int}(h:a≠b): sgn a b≠0:=λe=>h (cmp_sgn.zero _ _ e)
theorem Qkd(a b:V): cmpV a b = -1∨cmpV a b=0∨cmpV a b=1:=by
 unfold cmpV;split
 .exact Jsb _ _
 split
 repeat grind [Jsb,cb_3]
theorem cmp_V: Cmp cmpV:=by
 refine⟨λa b=>?_,λa b h=>?_,λa b c j i=>?_⟩
 .unfold cmpV;by_cases h:a.kind=b.kind
  .rw[if_neg (not_not_intro h),if_neg (not_not_intro h.symm)];by_cases i:a.num=b.num
   .grind [Qwb]
   rw[if_pos i,if_pos (Ne.symm i)];exact cmp_sgn.anti _ _
  rw[if_pos h,if_pos (Ne.symm h)];exact cmp_sgn.anti _ _
 .unfold cmpV at h;split at h
  .grind [Jym]
  rename_i j;split at h
  repeat grind [Jym,V.ext,Qkw]
 unfold cmpV at *;by_cases k1:a.kind=b.kind<;>by_cases k2:b.kind=c.kind
 .have C:a.kind=c.kind:=k1.trans k2;rw[if_neg (by simp[k1])]at j;rw[if_neg (by simp[k2])]at i;rw[if_neg (by simp[C])];by_cases n1:a.num=b.num<;>by_cases n2:b.num=c.num
  .grind [Qkx]
  .grind
  .grind
  rw[if_pos n1]at j;rw[if_pos n2]at i;have u:=cmp_sgn.lt_le (a:=a.num) (c:=c.num) (by grind [Jym]) i;have o:a.num≠c.num:=by intro e;rw[e,cmp_sgn.refl]at u;omega
  rw[if_pos o];omega
 .grind
 .grind
 rw[if_pos k1]at j;rw[if_pos k2]at i;have u:=cmp_sgn.lt_le (a:=a.kind) (c:=c.kind) (by grind [Jym]) i;have o:a.kind≠c.kind:=by intro e;rw[e,cmp_sgn.refl]at u;omega
 rw[if_pos o];omega
theorem Vd(a:V): cmpV a a=0:=cmp_V.refl a
theorem neg_0(d:Bool): neg d 0=0:=by cases d<;>rfl
theorem Jvh(d:Bool): Cmp λa b=>neg d (cmpV a b):=by
 cases d
 .exact cmp_V
 exact cmp_V.flip
theorem Jlq: ∀(a b:List V) (ds:List Bool),Jw b a ds = - Jw a b ds
 | [],[],_=>rfl
 | [],_::_,_=>rfl
 | _::_,[],_=>rfl
 | x::a,y::b,ds=>by
  simp only[Jw];have h:=cmp_V.anti x y;by_cases e:cmpV x y=0
  .rw[if_pos e,if_pos om];exact Jlq a b _
  rw[if_neg e,if_neg om];exact(Jvh _).anti x y
theorem Jzx: ∀(a b:List V) (ds:List Bool),Jw a b ds=0->a=b
 | [],[],_,_=>rfl
 | [],_::_,_,h=>by simp[Jw]at h
 | _::_,[],_,h=>by simp[Jw]at h
 | x::a,y::b,ds,h=>by
  simp only[Jw]at h;split at h
  .rename_i e;rw[cmp_V.zero _ _ e,Jzx a b _ h]
  rename_i e;exact absurd (congrArg (cmpV x) ((Jvh _).zero x y h)) (by grind [Vd])
theorem Qkg: ∀(a b c:List V) (ds:List Bool),Jw a b ds<=0->Jw b c ds<=0->Jw a c ds<=0
 | [],_,[],_,_,_=>by simp[Jw]
 | [],_,_::_,_,_,_=>by simp[Jw]
 | _::_,[],_,_,h,_=>by simp[Jw]at h
 | _::_,_::_,[],_,_,h=>by simp[Jw]at h
 | x::a,y::b,z::c,ds,h1,h2=>by
  simp only[Jw]at *;have N:=Jvh (ds.getD 0 false);by_cases e1:cmpV x y=0
  .rw[if_pos e1]at h1;rw[cmp_V.zero _ _ e1];by_cases e2:cmpV y z=0
   .rw[if_pos e2]at h2 ⊢;exact Qkg a b c _ h1 h2
   repeat grind
  rw[if_neg e1]at h1;by_cases e2:cmpV y z=0
  .rw[<-cmp_V.zero _ _ e2,if_neg e1];exact h1
  rw[if_neg e2]at h2;have hne:neg (ds.getD 0 false) (cmpV x y)≠0:=λe=>e1 (by have:=N.zero x y e;grind [Vd]);have h3:=N.lt_le (a:=x) (b:=y) (c:=z) om h2;grind [cmpV,neg_0]
theorem Ke(ds:List Bool): Cmp λa b=>Jw a b ds:=⟨λa b=>Jlq a b ds,λa b h=>Jzx a b ds h,λa b c j i=>Qkg a b c ds j i⟩
theorem Yt(a:List V)(ds:List Bool): Jw a a ds=0:=(Ke ds).refl a
open Go.RowKit Pl Go.Wk _root_.Go.Proofs.Tryz
attribute [local irreducible] WC WL QX WD WDB
variable {ds:List Bool}{a b:List V}{k:Nat}{va vb vd:Value}{w:World}
def RowV(w:World)(v:Value)(r:List V): Prop:=∃ A c,v=.slice A r.length c/\r.length<=c/\r.length<=1100000/\RdR w A r
def BoolsV(w:World)(v:Value)(ds:List Bool): Prop:=∃ A c,v=.slice A ds.length c/\ds.length<=c/\ds.length<=1100000/\RdB w A ds
theorem RowV.ext{w w':World}{v:Value}{r:List V}(h:RowV w v r)(hx:Ext w w'): RowV w' v r:=by
 obtain⟨A,c,u,o,j,i⟩:=h;exact⟨A,c,u,o,j,i.ext hx⟩
theorem BoolsV.ext{w w':World}{v:Value}{r:List Bool}(h:BoolsV w v r)(hx:Ext w w'): BoolsV w' v r:=by
 obtain⟨A,c,u,o,j,i⟩:=h;exact⟨A,c,u,o,j,i.ext hx⟩
theorem RowV.nil(w:World)(A:Option Addr)(c:Nat): RowV w (.slice A 0 c) []:=⟨A,c,rfl,by simp,by simp,Rd.nil⟩
theorem BoolsV.nil(w:World)(A:Option Addr)(c:Nat): BoolsV w (.slice A 0 c) []:=⟨A,c,rfl,by simp,by simp,Rd.nil⟩
theorem Qkm(ha:k<a.length)(hb:k<b.length): Jw (a.drop k) (b.drop k) (ds.drop k) =
  if cmpV (a.getD k V0) (b.getD k V0)=0 then Jw (a.drop (k+1)) (b.drop (k+1)) (ds.drop (k+1)) else neg (ds.getD k false) (cmpV (a.getD k V0) (b.getD k V0)):=by grind [List.drop_eq_getElem_cons,Jw,V0,List.getD,List.getElem?_eq_getElem,List.drop_drop]
theorem Qkk(hk:a.length<=k∨b.length<=k)(hka:k<=a.length)(hkb:k<=b.length): Jw (a.drop k) (b.drop k) (ds.drop k)=if a.length<b.length then -1 else if b.length<a.length then 1 else 0:=by
 rcases Nat.lt_trichotomy a.length b.length with h|h|h
 .rw[if_pos h,List.drop_of_length_le (by omega:a.length<=k),List.drop_eq_getElem_cons (by omega:k<b.length)];rfl
 .rw[if_neg om,if_neg om,List.drop_of_length_le (by omega:a.length<=k),List.drop_of_length_le (by omega:b.length<=k)];rfl
 rw[if_neg om,if_pos h,List.drop_of_length_le (by omega:b.length<=k),List.drop_eq_getElem_cons (by omega:k<a.length)];rfl
theorem Jnh(a b:V): IntKind.i64.wrap (0-cmpV a b)=neg true (cmpV a b):=by
 rcases Qkd a b with h|h|h<;>rw[h]<;>rfl
theorem Qnv(n m:Nat): (if(m:Int)<(n:Int) then(m:Int) else(n:Int))=((min n m:Nat):Int):=by split<;>omega
theorem Jlk(ha:RowV w va a)(hb:RowV w vb b)(hd:BoolsV w vd ds):
  Ret prog 146 [va,vb,vd] w λr w'=>r=.int .i64 (Jw a b ds)/\Ext w w':=by
 obtain⟨A,ac,rfl,ai,ah,ha⟩:=ha;obtain⟨B,bc,rfl,ag,af,hb⟩:=hb;obtain⟨D,dc,rfl,ad,ab,hd⟩:=hd;refine enE func146 ntmps146 ?_;refine ρ ?_;rw[Qnv];refine Qy (λk=>[(0,.slice A a.length ac),(1,.slice B b.length bc),(2,.slice D ds.length dc),(13,.int .i64 ((min a.length b.length:Nat):Int)),(14,.int .i64 ((k:Nat):Int))])
  (λk w'=>Ext w w'/\k<=a.length/\k<=b.length/\Jw a b ds=Jw (a.drop k) (b.drop k) (ds.drop k)) (λk=>a.length-k) 0 sB ⟨Ext.refl w,Nat.zero_le _,Nat.zero_le _,rfl⟩ ?_
 rintro k w1 ⟨C,a7,a6,he⟩;have a9:=ha.ext C;have a8:=hb.ext C;have ae:=hd.ext C;refine ρ ?_;have a5:(a.length<=k∨b.length<=k)->Jw a b ds=if a.length<b.length then -1 else if b.length<a.length then 1 else 0:=λh=>by rw[he,Qkk h a7 a6]
 refine ci (λh=>?_) (λh=>?_)
 .have aa:k<min a.length b.length:=by have:=oT h;omega
  have J:k<a.length:=om
  have G:k<b.length:=om
  refine drR (scq 10 [8]) ?_;have o:Ext w1 w1.drew:=(Ext.refl w1).drew;have a4:=a9.ext o;have a3:=a8.ext o;refine Kt 3 k a4 J ?_;refine Qh (λj u hu=>RdR.cell a4 J hu) ?_;refine Kt 3 k a3 G ?_;refine Qh (λj u hu=>RdR.cell a3 G hu) ?_;refine Jh (Jxf (a.getD k V0) (b.getD k V0) _) ?_;rintro x w2 ⟨rfl,U⟩;refine⟨U,?_⟩;have i:Ext w w2:=(C.trans o).trans U;have a2:=hd.ext i;refine ρd ?_;refine ρ ?_;have step:=Qkm (ds:=ds) J G;refine ci (λh0=>?_) (λh0=>?_)
  .refine ρ ?_;refine Qw (k+1) sB ⟨i,om,om,?_⟩ om;grind
  have Z:=Xu h0;refine ρ ?_;refine ki 32 (λh=>?_) (λh=>?_)
  .have a1:k<ds.length:=by have:=oT h;omega
   refine ixR k a2 a1 ?_;refine ldR (RdB.cell a2 a1) ?_;refine ciR (λh1=>?_) (λh1=>?_)
   .refine ρ ?_;refine Jj ⟨?_,i⟩;grind [Jnh]
   refine ρ ?_;refine Jj ⟨?_,i⟩;rw[he,step,h1,if_neg Z];rfl
  have h1:ds.getD k false=false:=by grind
  refine ρ ?_;refine Jj ⟨?_,i⟩;rw[he,step,h1,if_neg Z];rfl
 have O:=a5 (by grind);refine ciR (λh=>?_) (λh1=>?_)
 .refine ρ ?_;refine Jj ⟨?_,C⟩;rw[O,if_pos (by grind)]
 refine ciR (λh=>?_) (λh2=>?_)
 .refine ρ ?_;refine Jj ⟨?_,C⟩;rw[O,if_neg (by grind),if_pos (by grind)]
 refine ρ ?_;refine Jj ⟨?_,C⟩;rw[O,if_neg (by grind),if_neg (by grind)]
theorem Jsp(ha:RowV w va a)(hb:RowV w vb b):
  Ret prog 90 [va,vb] w λr w'=>r=.int .i64 (Jw a b [])/\Ext w w':=by
 refine enE func90 ntmps90 ?_;refine clR (Jlk ha hb (BoolsV.nil w none 0)) ?_;rintro v j ⟨rfl,i⟩;refine ρ ?_;exact Jj ⟨rfl,i⟩
theorem Xxg(a b:List V)(ds:List Bool): (Jw a b ds == 0)=true↔a=b:=by
 constructor
 .intro h;exact Jzx _ _ _ (Zx h)
 repeat grind [Yt]
instance:DecidableEq V:=λa b=>if h:cmpV a b=0 then isTrue (cmp_V.zero _ _ h) else isFalse (λe=>h (by rw[e];exact Vd b))
theorem Xxf(a b:List V)(ds:List Bool): (Jw a b ds == 0)=decide (a=b):=by
 rw[Bool.eq_iff_iff,Xxg,decide_eq_true_iff]
theorem Jyq(ha:RowV w va a)(hb:RowV w vb b):
  Ret prog 32 [va,vb] w λr w'=>r=.bool (decide (a=b))/\Ext w w':=by
 refine enE func32 ntmps32 ?_;refine clR (Jsp ha hb) ?_;rintro v j ⟨rfl,i⟩;refine ρ ?_;refine Jj ⟨?_,i⟩;rw[Xxf]
open Go.RowKit Pl Go.Wk _root_.Go.Proofs.Tryz
attribute [local irreducible] WP
variable {j k x:Nat}
def Qz(x:Nat): Nat:=if x=0 then 0 else Nat.log2 x+1
theorem Jgt: x<2^Qz x:=by
 unfold Qz;split
 .omega
 exact Nat.lt_log2_self
theorem Qqp(h:x≠0): 0<Qz x/\2^(Qz x-1)<=x:=by grind [Qz,Nat.log2_self_le]
theorem Jql(h:x<2^k): Qz x<=k:=by
 unfold Qz;split
 .omega
 rename_i h0;have:=(Nat.log2_lt h0).2 h;omega
theorem Qrg(h1:2^k<=x)(h2:x<2^(k+1)): Qz x=k+1:=by
 have j:=Jql h2;have i:=Jgt (x:=x);rcases Nat.lt_or_ge (Qz x) (k+1) with h|h
 .have:=Nat.pow_le_pow_right (show 0<2 by omega) (show Qz x<=k by omega);omega
 omega
theorem Jwn(h:2^k<=x): Qz x=k+Qz (x / 2^k):=by
 have i:0<2^k:=Nat.pow_pos om;have o:x / 2^k≠0:=by
  have:=(Nat.le_div_iff_mul_le i).2 (show 1*2^k<=x by omega);omega
 obtain⟨a,b⟩:=Qqp o;have c:=Jgt (x:=x / 2^k);generalize Qz (x / 2^k)=m at *
 obtain⟨m,rfl⟩:∃ j,m=j+1:=⟨m-1,om⟩;rw[Nat.add_sub_cancel]at b;have:=Qrg (x:=x) (k:=k+m) (by grind [Nat.pow_add,Nat.le_div_iff_mul_le,Nat.mul_comm]) (by
  rw[show k+m+1=(m+1)+k by omega,Nat.pow_add];exact(Nat.div_lt_iff_lt_mul i).1 c)
 omega
theorem tabB(s:ByteArray)(h:((List.range 256).all λj=>(s.data.toList.getD j 0).toNat == Qz j)=true)(hj:j<256): (s.data.toList.getD j 0).toNat=Qz j:=by grind
theorem Jks(y k m:Nat): ((y:Int)).fdiv (2^(min ((k:Nat):Int).toNat m))=((y / 2^(min k m):Nat):Int):=by grind
theorem Qrh(x:Nat)(hx:x<18446744073709551616)(w:World): Ret prog 85 [.int .u64 (x:Int)] w λv w'=>v=.int .i64 (Qz x:Int)/\w'=w:=by
 refine enE func85 ntmps85 ?_;refine ρ ?_;refine Jjj (fun (y s:Nat)=>[(0,.int .u64 (y:Int)),(2,.int .i64 (s:Int))]) (λy s w'=>w'=w/\Qz x=s+Qz y/\y<4294967296/\s<=32) ?_ ?_
 .refine ci (λh=>?_) (λh=>?_)
  .have o:=oT h;refine ρ ?_;refine Yo rfl rfl (by decide) rfl ?_;refine kv 6 (u:=.int .u64 ((x / 2^32:Nat):Int)) (congrArg (Value.int .u64) (Jks x 32 64)) ?_;refine ρ ?_;have e:=Jwn (x:=x) (k:=32) om;exact Vv (x / 2^32) 32 sO ⟨rfl,e,om,om⟩
  have o:=oF h;refine ρ ?_;exact Vv x 0 sO ⟨rfl,om,om,om⟩
 rintro j G w ⟨rfl,e0,b0,c0⟩;refine ρ ?_;refine Jjj (fun (y s:Nat)=>[(0,.int .u64 (y:Int)),(2,.int .i64 (s:Int))]) (λy s w'=>w'=w/\Qz x=s+Qz y/\y<65536/\s<=48) ?_ ?_
 .refine ci (λh=>?_) (λh=>?_)
  .have o:=oT h;refine ρ ?_;refine Yo rfl rfl (by decide) rfl ?_;refine kv 10 (u:=.int .u64 ((j / 2^16:Nat):Int)) (congrArg (Value.int .u64) (Jks j 16 64)) ?_;refine ρ ?_;have e:=Jwn (x:=j) (k:=16) om;exact Vv (j / 2^16) (G+16) sO ⟨rfl,om,om,om⟩
  have o:=oF h;refine ρ ?_;exact Vv j G sO ⟨rfl,om,om,om⟩
 rintro i D w ⟨rfl,Z,b1,c1⟩;refine ρ ?_;refine Jjj (fun (y s:Nat)=>[(0,.int .u64 (y:Int)),(2,.int .i64 (s:Int))]) (λy s w'=>w'=w/\Qz x=s+Qz y/\y<256/\s<=56) ?_ ?_
 .refine ci (λh=>?_) (λh=>?_)
  .have o:=oT h;refine ρ ?_;refine Yo rfl rfl (by decide) rfl ?_;refine kv 16 (u:=.int .u64 ((i / 2^8:Nat):Int)) (congrArg (Value.int .u64) (Jks i 8 64)) ?_;refine ρ ?_;have e:=Jwn (x:=i) (k:=8) om;exact Vv (i / 2^8) (D+8) sO ⟨rfl,om,om,om⟩
  have o:=oF h;refine ρ ?_;exact Vv i D sO ⟨rfl,om,om,om⟩
 rintro C O w ⟨rfl,U,J,c2⟩;refine ρ ?_;refine Jng Jjk C rfl rfl rfl rfl ?_ ?_ rfl ?_
 .rw[IntKind.wrap_u8];omega
 .exact nM J (by decide)
 refine kv 22 (u:=.int .u8 (Qz C:Int)) (congrArg (λz:Nat=>Value.int .u8 (z:Int)) (tabB _ kr J)) ?_;have:=Jql (x:=C) (k:=8) om;refine ρ ?_;refine Jj ⟨?_,rfl⟩;grind [Kr,Qz]
theorem Qqq(x:Nat)(hx:x<4294967296)(w:World): Ret prog 84 [.int .u32 (x:Int)] w λv w'=>v=.int .i64 (Qz x:Int)/\w'=w:=by
 refine enE func84 ntmps84 ?_;refine ρ ?_;refine Jjj (fun (y s:Nat)=>[(0,.int .u32 (y:Int)),(2,.int .i64 (s:Int))]) (λy s w'=>w'=w/\Qz x=s+Qz y/\y<65536/\s<=16) ?_ ?_
 .refine ci (λh=>?_) (λh=>?_)
  .have o:=oT h;refine ρ ?_;refine Yo rfl rfl (by decide) rfl ?_;refine kv 6 (u:=.int .u32 ((x / 2^16:Nat):Int)) (congrArg (Value.int .u32) (Jks x 16 32)) ?_;refine ρ ?_;have e:=Jwn (x:=x) (k:=16) om;exact Vv (x / 2^16) 16 sO ⟨rfl,e,om,om⟩
  have o:=oF h;refine ρ ?_;exact Vv x 0 sO ⟨rfl,om,om,om⟩
 rintro i C w ⟨rfl,O,b0,Z⟩;refine ρ ?_;refine Jjj (fun (y s:Nat)=>[(0,.int .u32 (y:Int)),(2,.int .i64 (s:Int))]) (λy s w'=>w'=w/\Qz x=s+Qz y/\y<256/\s<=24) ?_ ?_
 .refine ci (λh=>?_) (λh=>?_)
  .have o:=oT h;refine ρ ?_;refine Yo rfl rfl (by decide) rfl ?_;refine kv 10 (u:=.int .u32 ((i / 2^8:Nat):Int)) (congrArg (Value.int .u32) (Jks i 8 32)) ?_;refine ρ ?_;have e:=Jwn (x:=i) (k:=8) om;exact Vv (i / 2^8) (C+8) sO ⟨rfl,om,om,om⟩
  have o:=oF h;refine ρ ?_;exact Vv i C sO ⟨rfl,om,om,om⟩
 rintro j G w ⟨rfl,J,D,U⟩;refine ρ ?_;refine Jng Jjk j rfl rfl rfl rfl ?_ ?_ rfl ?_
 .rw[IntKind.wrap_u8];omega
 .exact nM D (by decide)
 refine kv 16 (u:=.int .u8 (Qz j:Int)) (congrArg (λz:Nat=>Value.int .u8 (z:Int)) (tabB _ kr D)) ?_;have:=Jql (x:=j) (k:=8) om;refine ρ ?_;refine Jj ⟨?_,rfl⟩;grind [Kr,Qz]
theorem Jlx(x:Nat)(h:x<18446744073709551616)(w:World): Ret prog 27 [.int .u64 (x:Int)] w λv w'=>v=.int .i64 (Qz x:Int)/\w'=w:=by
 refine enE func27 ntmps27 ?_;refine clR (Qrh x h w) ?_;rintro v w' ⟨rfl,rfl⟩;refine ρ ?_;exact Jj ⟨rfl,rfl⟩
end Go.Proofs.YtgobkbeokaaplaaGreatDoor
namespace Go.Proofs.YtgobkbeokaaplaaGreatDoor
variable {a a' b b' i j:Nat}
section
variable {α:Type} (z:α)
def swp(q:List α)(i j:Nat): List α:=(q.set i (q.getD j z)).set j (q.getD i z)
theorem Qdg(q:List α)(i j:Nat): (swp z q i j).length=q.length:=by simp[swp]
theorem Jhs(q:List α)(i k:Nat)(x:α)(hi:i<q.length): (q.set i x).getD k z=if k=i then x else q.getD k z:=by grind
theorem Jdm(q:List α)(hi:i<q.length)(hj:j<q.length)(k:Nat): (swp z q i j).getD k z=if k=j then q.getD i z else if k=i then q.getD j z else q.getD k z:=by grind [swp,Jhs]
theorem Qv(q:List α)(h:i<q.length): q.getD i z=q[i]:=by grind
theorem Jrb(q:List α)(hi:i<q.length)(hj:j<q.length): (swp z q i j).Perm q:=by grind [swp,Qv,List.set_set_perm]
theorem getD_mem'(q:List α)(h:i<q.length): q.getD i z∈q:=by grind
structure Seg(a b:Nat)(q q':List α): Prop where
 perm:q'.Perm q
 lo:∀ k,k<a->q'.getD k z=q.getD k z
 hi:∀ k,b<=k->q'.getD k z=q.getD k z
variable {z}
theorem Seg.len{q q':List α}(h:Seg z a b q q'): q'.length=q.length:=h.perm.length_eq
theorem Seg.refl(a b:Nat)(q:List α): Seg z a b q q:=⟨List.Perm.refl _,λ_ _=>rfl,λ_ _=>rfl⟩
theorem Seg.trans{a b:Nat}{q q' q'':List α}(h:Seg z a b q q')(k:Seg z a b q' q''): Seg z a b q q'' :=
 ⟨k.perm.trans h.perm,λi hi=>(k.lo i hi).trans (h.lo i hi),λi hi=>(k.hi i hi).trans (h.hi i hi)⟩
theorem Seg.mono{q q':List α}(h:Seg z a b q q')(h1:a'<=a)(h2:b<=b'): Seg z a' b' q q' :=
 ⟨h.perm,λi hi=>h.lo i om,λi hi=>h.hi i om⟩
theorem Seg.swp{q:List α}(h1:a<=i)(h2:i<b)(h3:a<=j)(h4:j<b)(hb:b<=q.length): Seg z a b q (swp z q i j) :=
 ⟨Jrb z q om om,λk o=>by grind [Jdm],λk o=>by grind [Jdm]⟩
theorem Qxn{q q':List α}(hl:q'.length=q.length)(h:∀ k,k<q.length->q'.getD k z=q.getD k z): q'=q:=by grind [List.ext_getElem,Qv]
theorem getD_take(q:List α)(a k:Nat)(h:k<a): (q.take a).getD k z=q.getD k z:=by simp[List.getD,h]
theorem Qxp(q:List α)(a k:Nat): (q.drop a).getD k z=q.getD (a+k) z:=by grind
theorem Seg.all{q q':List α}(h:Seg z a b q q')(hab:a<=b)(hb:b<=q.length){Φ:α->Prop}(H:∀ k,a<=k->k<b->Φ (q.getD k z)): ∀ k,a<=k->k<b->Φ (q'.getD k z):=by
 intro k Z U;have u:=h.len;have J:q'.take a=q.take a:=Qxn (z:=z) (by simp[u]) (λi hi=>by
  have j:i<a:=by simp at hi;omega
  rw[getD_take _ _ _ j,getD_take _ _ _ j];exact h.lo i j)
 have G:q'.drop b=q.drop b:=Qxn (z:=z) (by simp[u]) (λi hi=>by
  rw[Qxp,Qxp];exact h.hi _ om)
 have s:∀ l:List α,l=l.take a++((l.take b).drop a++l.drop b):=λl=>by grind [List.append_assoc,List.take_append_drop]
 have p:=h.perm;rw[s q',s q,J,G]at p;have C:=(List.perm_append_right_iff _).1 ((List.perm_append_left_iff _).1 p);have D:q'.getD k z∈(q'.take b).drop a:=by
  have e:((q'.take b).drop a).getD (k-a) z=q'.getD k z:=by grind
  grind [getD_mem']
 have o:=C.mem_iff.1 D;obtain⟨i,hi,O⟩:=List.getElem_of_mem o;have:((q.take b).drop a).getD i z=q'.getD k z:=by grind
 grind
end
section
variable {α:Type} (z:α) (f:α->α->Int)
def SOn(q:List α)(a b:Nat): Prop:=∀ i j,a<=i->i<j->j<b->f (q.getD i z) (q.getD j z)<=0
variable {z f}
theorem SOn.mono{q:List α}(h:SOn z f q a b)(h1:a<=a')(h2:b'<=b): SOn z f q a' b':=λi j hi o u=>h i j om o om
theorem SOn.same{q q':List α}(h:SOn z f q a b)(he:∀ k,a<=k->k<b->q'.getD k z=q.getD k z): SOn z f q' a b:=λi j hi o u=>by
 rw[he i hi om,he j om u];exact h i j hi o u
theorem SOn.one(q:List α)(h:b<=a+1): SOn z f q a b:=λi j hi o u=>by omega
def InsI(z:α)(f:α->α->Int)(q:List α)(a i j:Nat): Prop:=a<=j/\j<=i/\(∀ k m,a<=k->k<m->m<=i->k≠j->m≠j->f (q.getD k z) (q.getD m z)<=0)/\(∀ m,j<m->m<=i->f (q.getD j z) (q.getD m z)<=0)
theorem InsI.start{q:List α}(h:SOn z f q a i)(hi:a<=i): InsI z f q a i i :=
 ⟨hi,Nat.le_refl _,λk m o j D C u=>h k m o j om,λm o j=>om⟩
theorem InsI.step{q:List α}(h:InsI z f q a i j)(hj:a<j)(hi:i<q.length)(hlt:f (q.getD j z) (q.getD (j-1) z)<0): InsI z f (swp z q j (j-1)) a i (j-1):=by
 obtain⟨Z,U,O,J⟩:=h;have s:=λk=>Jdm z q (i:=j) (j:=j-1) om om k;refine⟨om,om,λk m u o G D C=>?_,λm u o=>?_⟩;repeat grind
theorem InsI.done0{q:List α}(h:InsI z f q a i a): SOn z f q a (i+1):=by
 obtain⟨J,G,D,C⟩:=h;intro k m u o j;grind
theorem InsI.done{q:List α}(hf:PreC f)(h:InsI z f q a i j)(hj:a<j)(hge:¬ f (q.getD j z) (q.getD (j-1) z)<0): SOn z f q a (i+1):=by
 obtain⟨U,O,C,J⟩:=h;have o:f (q.getD (j-1) z) (q.getD j z)<=0:=by have:=hf.anti (q.getD j z) (q.getD (j-1) z);omega
 intro k m u G D;by_cases e:k=j
 .grind
 by_cases e2:m=j
 .subst e2;by_cases e3:k=m-1
  .rw[e3];exact o
  exact hf.trans _ _ _ (C k (m-1) u om om e om) o
 repeat grind
end
open Go.RowKit Pl Go.Wk
attribute [local irreducible] WC WL QX WD WDB WP
variable {ds:List Bool}{base c i j n:Nat}{A:Option Addr}{fv v:Value}{w w' w1:World}
abbrev Pr:= Value×List V
def z0: Pr:=(undef,[])
def Dat(w:World)(base:Nat)(v:Value)(ps:List Pr): Prop:=w.ownsRow base 59 1 v ps.length (ps.map (·.1))/\∀ p∈ps,p.1.oneCell'=true
theorem Dat.ext{ps:List Pr}(h:Dat w base v ps)(hx:Ext w w'): Dat w' base v ps:=⟨Jk h.1 hx,h.2⟩
theorem Dat.rd{ps:List Pr}(h:Dat w base (.slice A n c) ps)(hn:ps.length=n): Rd w 1 A n (ps.map (·.1)):=by
 have:=h.1;rw[hn]at this;exact Rd.own this
theorem Gs{ps:List Pr}(h:i<ps.length): (ps.map (·.1))[i]?=some (ps.getD i z0).1:=by grind
theorem Dat.cell{w:World}{base:Nat}{A:Option Addr}{n c:Nat}{ps:List Pr}(h:Dat w base (.slice A n c) ps)(hn:ps.length=n){i:Nat}(hi:i<n): w.cell? (adr A i)=some (ps.getD i z0).1 :=
 (h.rd hn).cell (Gs om)
theorem Dat.one{ps:List Pr}(h:Dat w base v ps)(hi:i<ps.length): (ps.getD i z0).1.oneCell'=true:=h.2 _ (getD_mem' z0 ps hi)
theorem Dat.store{ps:List Pr}(h:Dat w base (.slice A n c) ps)(hn:ps.length=n)(hi:i<n){p:Pr}(hp:p.1.oneCell'=true):
  w.frozen? (adr A i)=false/\Dat (w.setCell (adr A i) p.1) base (.slice A n c) (ps.set i p)/\w.grownBy (w.setCell (adr A i) p.1) (Value.slice A n c).ownBlock:=by
 have j:=h.1;rw[hn]at j;obtain⟨J,u,G,D,o⟩:=Zn j (q:=i) om p.1;refine⟨u,⟨?_,λq C=>?_⟩,o⟩
 .grind [List.length_set,List.map_set]
 rcases List.mem_or_eq_of_mem_set C with h'|h'
 .exact h.2 q h'
 rw[h'];exact hp
theorem Dat.swap{ps:List Pr}(h:Dat w base (.slice A n c) ps)(hn:ps.length=n)(hi:i<n)(hj:j<n):
  w.frozen? (adr A i)=false/\Rd (w.setCell (adr A i) (ps.getD j z0).1) 1 A n ((ps.set i (ps.getD j z0)).map (·.1))/\(w.setCell (adr A i) (ps.getD j z0).1).frozen? (adr A j)=false /\
  (∃ u,(w.setCell (adr A i) (ps.getD j z0).1).cell? (adr A j)=some u)/\Dat ((w.setCell (adr A i) (ps.getD j z0).1).setCell (adr A j) (ps.getD i z0).1) base (.slice A n c) (swp z0 ps i j) /\
  w.grownBy ((w.setCell (adr A i) (ps.getD j z0).1).setCell (adr A j) (ps.getD i z0).1) (Value.slice A n c).ownBlock:=by
 obtain⟨U,C,O⟩:=h.store hn hi (p:=ps.getD j z0) (h.one om);have o:(ps.set i (ps.getD j z0)).length=n:=by simp[hn]
 obtain⟨J,G,D⟩:=C.store o hj (p:=ps.getD i z0) (h.one om);exact⟨U,C.rd o,J,⟨_,C.cell o hj⟩,G,Zh O D⟩
def fP(ds:List Bool)(p q:Pr): Int:=Jw p.2 q.2 ds
theorem preP(ds:List Bool): PreC (fP ds):=(Ke ds).pre (β:=Pr) (λp=>p.2)
def CmpF(w:World)(row:Option Nat)(fv:Value)(M:List Pr)(ds:List Bool): Prop:=∃ fid first cap,fv=.func (.func fid) first cap /\
 ∀ w',w.grownBy w' row->∀ p q,p∈M->q∈M->Ret Tryz.prog fid (first.toList++[p.1,q.1]++cap.toList) w' λr w''=>r=.int .i64 (fP ds p q)/\Ext w' w''
theorem CmpF.step{row:Option Nat}{M M':List Pr}(h:CmpF w row fv M ds)(hg:w.grownBy w1 row)(hp:M'.Perm M): CmpF w1 row fv M' ds:=by
 obtain⟨u,first,C,G,D⟩:=h;exact⟨u,first,C,G,λw' o p q j i=>D w' (Zh hg o) p q (hp.mem_iff.1 j) (hp.mem_iff.1 i)⟩
theorem Jhq{a b:Nat}{ai bi:Int}{ps:List Pr}(hD:Dat w base (.slice A n c) ps)(hn:ps.length=n)(hai:ai=(a:Int))(hbi:bi=(b:Int))(hb:b<=n)(ha:a<=n)(hmx:n<=140737488355328)(hC:CmpF w (Value.slice A n c).ownBlock fv ps ds):
  Ret Tryz.prog 212 [.slice A n c,.int .i64 ai,.int .i64 bi,fv] w λv w'=>∃ ps',Dat w' base (.slice A n c) ps'/\Seg z0 a b ps ps'/\SOn z0 (fP ds) ps' a b/\w.grownBy w' (Value.slice A n c).ownBlock:=by
 subst hai;subst hbi;obtain⟨aa,first,ab,rfl,hC⟩:=hC;refine enE Tryz.func212 Tryz.ntmps212 ?_;refine ρ ?_;refine Jo (fun (i:Nat) (q:List Pr)=>[(0,.slice A n c),(1,.int .i64 (a:Int)),(2,.int .i64 (b:Int)),(3,.func (.func aa) first ab),(8,.int .i64 ((i:Nat):Int))])
  (λi q w'=>a+1<=i/\(i<=b∨i=a+1)/\Seg z0 a b ps q/\SOn z0 (fP ds) q a i/\Dat w' base (.slice A n c) q/\w.grownBy w' (Value.slice A n c).ownBlock) (λi _=>b+1-i) (a+1) ps sO
  ⟨nR _,.inr rfl,Seg.refl _ _ _,SOn.one _ om,hD,Za (Ext.refl w) _⟩ ?_
 rintro i q w1 ⟨hai,af,a6,a7,a9,a5⟩;refine ciR (λh=>?_) (λh=>?_)
 .have ae:i<b:=by have:=oT h;omega
  refine ρ ?_;refine Jo (fun (j:Nat) (q:List Pr)=>[(0,.slice A n c),(1,.int .i64 (a:Int)),(2,.int .i64 (b:Int)),(3,.func (.func aa) first ab),(8,.int .i64 ((i:Nat):Int)),(9,.int .i64 ((j:Nat):Int))])
   (λj q w'=>InsI z0 (fP ds) q a i j/\Seg z0 a b ps q/\Dat w' base (.slice A n c) q/\w.grownBy w' (Value.slice A n c).ownBlock) (λj _=>j) i q sB ⟨InsI.start a7 om,a6,a9,a5⟩ ?_
  rintro j q w2 ⟨hI,G,ad,ac⟩;have o:q.length=n:=by rw[G.len,hn]
  obtain⟨h1,h2,_,_⟩:=id hI;refine drR (scq 17 [14]) ?_;have a3:Ext w2 w2.drew:=(Ext.refl w2).drew;have J:=ad.ext a3;have a1:=Zh ac (Za a3 _);refine ρd ?_;refine dki 21 (λh=>?_) (λh=>?_)
  .have hj:a<j:=by have:=oT h;omega
   have U:j<n:=om
   have D:j-1<n:=om
   refine Jc j (J.rd o) U ?_;refine Jz (J.cell o U) ?_;refine Jc (j-1) (J.rd o) D ?_;refine Jz (J.cell o D) ?_;refine ρd ?_;refine Vt (hC _ a1 (q.getD j z0) (q.getD (j-1) z0) (G.perm.mem_iff.1 (getD_mem' z0 q om)) (G.perm.mem_iff.1 (getD_mem' z0 q om))) ?_;rintro r w4 ⟨rfl,Z⟩;refine⟨Z,?_⟩;have a8:=J.ext Z;have a4:=Zh a1 (Za Z _);refine ρd ?_;refine ciR (λh=>?_) (λh=>?_)
   .have O:=oT h;refine ρ ?_;refine drC 4 [0,1,2,3,4,5,6,7,10,11] [(0,8),(0,9),(0,12),(0,13),(0,14),(2,15),(2,16),(2,17)] kr ?_;have a2:Ext w4 w4.drew:=(Ext.refl w4).drew;have C:=a8.ext a2;obtain⟨s1,s2,s3,⟨u,s4⟩,s5,s6⟩:=C.swap o U D;refine ρp ?_;refine dix (j-1) (C.rd o) D ?_;refine Jz (C.cell o D) ?_;refine Jc j (C.rd o) U ?_;refine Jz (C.cell o U) ?_;refine Jc j (C.rd o) U ?_;refine ρd ?_;refine Qj ?_;refine sto (C.cell o U) s1 ?_ (hv:=C.one (o.symm ▸ D));refine ρ ?_;refine Qu ?_;refine Qj ?_;refine ix (j-1) s2 D ?_;refine ρ ?_;refine Qu ?_;refine Qj ?_;refine sto s4 s3 ?_ (hv:=C.one (o.symm ▸ U));refine ρ ?_;exact Jl (j-1) (swp z0 q j (j-1)) sO ⟨hI.step hj om O,G.trans (Seg.swp om om om om om),s5,Zh a4 (Zh (Za a2 _) s6)⟩ om
   have O:=oF h;refine ρ ?_;exact Jl (i+1) q sB ⟨om,om,G,hI.done (preP ds) hj O,a8,a4⟩ om
  have hj:j=a:=by have:=oF h;omega
  subst hj;refine ρd ?_;refine ρ ?_;exact Jl (i+1) q sB ⟨om,om,G,hI.done0,J,a1⟩ om
 refine ρ ?_;have hbi:b<=i:=by grind
 exact Ys ⟨q,a9,a6,a7.mono (nR _) hbi,a5⟩
end Go.Proofs.YtgobkbeokaaplaaGreatDoor
namespace Go.Wk
variable {a b:Int}{k1 k2:IntKind}{x y:Operand}{t yt:TypeId}
section
variable {P:Program} {n:Nat} {al:AL} {w:World} {Q:Exit->Act->World->Prop} {ops:Array Oper} {rest:List Oper} {d ty:Nat} {pos:String} {aft:Array Edge}
theorem qn(m q:Nat)(k:WL P n ops Q rest ((d,.int .i64 ((m / q:Nat):Int))::al) w)(hx:ev al x=some (.int .i64 a):=by rfl)(hy:ev al y=some (.int .i64 b):=by rfl)(ha:a=(m:Int):=by first|rfl|omega)(hb:b=(q:Int):=by first|rfl|omega)(h0:0<q:=by omega)(hm:m<=9223372036854775807:=by omega)(hd:Nat.blt d n=true:=by rfl): WL P n ops Q (⟨some d,.binOp .quo t x y yt,ty,pos,aft,none⟩::rest) al w:=by
 subst ha;subst hb;refine wquo hx hy om hd ?_;have e:IntKind.i64.wrap ((m:Int).tdiv (q:Int))=((m / q:Nat):Int):=by
  rw[Int.tdiv_eq_ediv_of_nonneg om,<-Int.natCast_ediv];have:=Nat.div_le_self m q;generalize m / q=r at *
  exact Kr om
 rw[e];exact k
variable {drest:List (Nat×Oper)}
theorem dshl(k:WD P n ops Q drest ((d,.int k1 (k1.wrap (a*2^(min b.toNat k1.bits))))::al) w)(hx:ev al x=some (.int k1 a):=by rfl)(hy:ev al y=some (.int k2 b):=by rfl)(h0:0<=b:=by decide)(hd:Nat.blt d n=true:=by rfl):
  WD P n ops Q ((0,⟨some d,.binOp .shl t x y yt,ty,pos,aft,none⟩)::drest) al w :=
 dy (λw' _ e i=>by
  have j:¬ b<0:=om
  simp[execOp,i.ev hx,i.ev hy,eqGuard,binOp,Op.shift,j]) hd k
theorem dshr(k:WD P n ops Q drest ((d,.int k1 (a.fdiv (2^(min b.toNat k1.bits))))::al) w)(hx:ev al x=some (.int k1 a):=by rfl)(hy:ev al y=some (.int k2 b):=by rfl)(h0:0<=b:=by decide)(hd:Nat.blt d n=true:=by rfl):
  WD P n ops Q ((0,⟨some d,.binOp .shr t x y yt,ty,pos,aft,none⟩)::drest) al w :=
 dy (λw' _ e i=>by
  have j:¬ b<0:=om
  simp[execOp,i.ev hx,i.ev hy,eqGuard,binOp,Op.shift,j]) hd k
end
end Go.Wk
namespace Go.Proofs.YtgobkbeokaaplaaGreatDoor
open Go.RowKit Pl Go.Wk
attribute [local irreducible] WC WL QX WD WDB WP
variable {cap first:Array Value}{fid:FuncId}{ai bi fsti hii loi:Int}{ds:List Bool}{M ps q q':List Pr}{a b base c fst g hi i j lo n t:Nat}{A:Option Addr}{w w' w0 w1:World}
structure DP(w0 w:World)(base:Nat)(A:Option Addr)(n c:Nat)(ps q:List Pr): Prop where
 d:Dat w base (.slice A n c) q
 p:q.Perm ps
 g:w0.grownBy w (Value.slice A n c).ownBlock
 l:q.length=n
section
variable {w0 w w':World} {base:Nat} {A:Option Addr} {n c:Nat} {ps q:List Pr}
theorem DP.start(hD:Dat w base (.slice A n c) ps)(hn:ps.length=n): DP w w base A n c ps ps:=⟨hD,List.Perm.refl _,Za (Ext.refl w) _,hn⟩
theorem DP.ext(h:DP w0 w base A n c ps q)(hx:Ext w w'): DP w0 w' base A n c ps q:=⟨h.d.ext hx,h.p,Zh h.g (Za hx _),h.l⟩
theorem DP.drew(h:DP w0 w base A n c ps q): DP w0 w.drew base A n c ps q:=h.ext (Ext.refl w).drew
theorem DP.rd(h:DP w0 w base A n c ps q): Rd w 1 A n (q.map (·.1)):=h.d.rd h.l
theorem DP.cell(h:DP w0 w base A n c ps q){i:Nat}(hi:i<n): w.cell? (adr A i)=some (q.getD i z0).1:=h.d.cell h.l hi
theorem DP.one(h:DP w0 w base A n c ps q){i:Nat}(hi:i<n): (q.getD i z0).1.oneCell'=true:=h.d.one (h.l.symm ▸ hi)
theorem DP.swap(h:DP w0 w base A n c ps q){i j:Nat}(hi:i<n)(hj:j<n):
  w.frozen? (adr A i)=false/\Rd (w.setCell (adr A i) (q.getD j z0).1) 1 A n ((q.set i (q.getD j z0)).map (·.1))/\(w.setCell (adr A i) (q.getD j z0).1).frozen? (adr A j)=false /\
  (∃ u,(w.setCell (adr A i) (q.getD j z0).1).cell? (adr A j)=some u)/\DP w0 ((w.setCell (adr A i) (q.getD j z0).1).setCell (adr A j) (q.getD i z0).1) base A n c ps (swp z0 q i j)/\w.grownBy ((w.setCell (adr A i) (q.getD j z0).1).setCell (adr A j) (q.getD i z0).1) (Value.slice A n c).ownBlock:=by
 obtain⟨O,J,G,D,C,o⟩:=h.d.swap h.l hi hj;exact⟨O,J,G,D,⟨C,(Jrb z0 q (h.l.symm ▸ hi) (h.l.symm ▸ hj)).trans h.p,Zh h.g o,by rw[Qdg];exact h.l⟩,o⟩
theorem DP.box(h:DP w0 w base A n c ps q){cs:List Value}(hB:Blk w g t cs)(hne:Nat.beq 59 t=false)(hg:w0.heap.size<=g)(u:Value): DP w0 (w.setCell ⟨g,0,none⟩ u) base A n c ps q:=by
 have j:w.grownBy (w.setCell ⟨g,0,none⟩ u) (some g):=⟨rfl,rfl,rfl,by simp[World.setCell],λk i hn=>Below.heap_setCell w ⟨g,0,none⟩ u k (λe=>hn (by rw[e]))⟩;refine⟨⟨h.d.1.kept j (Or.inr ?_),h.d.2⟩,h.p,?_,h.l⟩
 .exactλe=>hB.ne_own h.d.1 hne e.symm
 refine⟨h.g.os,h.g.tape,h.g.output,?_,λk i hn=>?_⟩
 .simp[World.setCell];exact h.g.size
 exact(Below.heap_setCell w ⟨g,0,none⟩ u k (by simp;omega)).trans (h.g.block k i hn)
end
def CF(w:World)(row:Option Nat)(fid:FuncId)(first cap:Array Value)(M:List Pr)(ds:List Bool): Prop :=
 ∀ w',w.grownBy w' row->∀ p q,p∈M->q∈M->Ret Tryz.prog fid (first.toList++[p.1,q.1]++cap.toList) w' λr w''=>r=.int .i64 (fP ds p q)/\Ext w' w''
theorem CF.call(hC:CF w0 (Value.slice A n c).ownBlock fid first cap ps ds)(h:DP w0 w base A n c ps q)(hi:i<n)(hj:j<n):
  Ret Tryz.prog fid (first.toList++[(q.getD i z0).1,(q.getD j z0).1]++cap.toList) w λr w''=>∃ b:Int,r=.int .i64 b/\Ext w w'' :=
 (hC w h.g _ _ (h.p.mem_iff.1 (getD_mem' z0 q (h.l.symm ▸ hi))) (h.p.mem_iff.1 (getD_mem' z0 q (h.l.symm ▸ hj)))).mono λr w'' ⟨u,o⟩=>⟨_,u,o⟩
theorem CF.pack{row:Option Nat}(h:CF w row fid first cap M ds): CmpF w row (.func (.func fid) first cap) M ds:=⟨fid,first,cap,rfl,h⟩
theorem CF.step(hC:CF w (Value.slice A n c).ownBlock fid first cap ps ds)(h:DP w w1 base A n c ps q): CF w1 (Value.slice A n c).ownBlock fid first cap q ds :=
 λw' i a b o j=>hC w' (Zh h.g i) a b (h.p.mem_iff.1 o) (h.p.mem_iff.1 j)
theorem DP.after(h:DP w0 w base A n c ps q)(k:DP w w' base A n c q q'): DP w0 w' base A n c ps q':=⟨k.d,k.p.trans h.p,Zh h.g k.g,k.l⟩
theorem Qgv(hD:Dat w base (.slice A n c) ps)(hn:ps.length=n)(hmx:n<=140737488355328)(hC:CF w (Value.slice A n c).ownBlock fid first cap ps ds)(hai:ai=(a:Int))(hbi:bi=(b:Int))(hab:a<b)(hb:b<=n):
  Ret Tryz.prog 217 [.slice A n c,.int .i64 ai,.int .i64 bi,.func (.func fid) first cap] w λv w'=>∃ ps',DP w w' base A n c ps ps':=by
 subst hai;subst hbi;refine enE Tryz.func217 Tryz.ntmps217 ?_;refine ρ ?_;refine Zq (fun (i j:Nat) (q:List Pr)=>[(0,.slice A n c),(8,.int .i64 (i:Int)),(9,.int .i64 ((j:Int)-1))])
  (λi j q w'=>DP w w' base A n c ps q/\j<=n/\i<=n) (λi j _=>n+j-i) a b ps sO ⟨DP.start hD hn,hb,om⟩ ?_
 rintro i j q w1 ⟨H,hj,hi⟩;refine ciR (λh=>?_) (λh=>?_)
 .have a1:i+1<j:=by have:=oT h;omega
  have C:i<n:=om
  have D:j-1<n:=om
  refine ρ ?_;refine drC 4 [0,1,2,3,4,5,8,9] [(0,6),(0,7),(0,10),(0,11),(0,12),(2,13),(2,14),(2,15)] kr ?_;have o:=H.drew;obtain⟨Z,U,O,⟨u,J⟩,G,s6⟩:=o.swap C D;refine ρp ?_;refine dix (j-1) o.rd D ?_;refine Jz (o.cell D) ?_;refine Jc (i) o.rd C ?_;refine Jz (o.cell C) ?_;refine Jc (i) o.rd C ?_;refine ρd ?_;refine Qj ?_;refine sto (o.cell C) Z ?_ (hv:=o.one D);refine ρ ?_;refine Qu ?_;refine Qj ?_;refine ix (j-1) U D ?_;refine ρ ?_;refine Qu ?_;refine Qj ?_;refine sto J O ?_ (hv:=o.one C);refine ρ ?_;exact Xq (i+1) (j-1) (swp z0 q i (j-1)) sO ⟨G,om,om⟩ om
 refine ρ ?_;exact Ys ⟨q,H⟩
theorem Jrr(hD:Dat w base (.slice A n c) ps)(hn:ps.length=n)(hmx:n<=140737488355328)(hC:CF w (Value.slice A n c).ownBlock fid first cap ps ds)(hlo:loi=(lo:Int))(hhi:hii=(hi:Int))(hfst:fsti=(fst:Int))(hb:fst+hi<=n)(hl:lo<=n):
  Ret Tryz.prog 231 [.slice A n c,.int .i64 loi,.int .i64 hii,.int .i64 fsti,.func (.func fid) first cap] w λv w'=>∃ ps',DP w w' base A n c ps ps':=by
 subst hlo;subst hhi;subst hfst;refine enE Tryz.func231 Tryz.ntmps231 ?_;refine ρ ?_;refine Jo (fun (i:Nat) (q:List Pr)=>[(0,.slice A n c),(2,.int .i64 (hi:Int)),(3,.int .i64 (fst:Int)),(4,.func (.func fid) first cap),(10,.int .i64 (i:Int))])
  (λi q w'=>DP w w' base A n c ps q/\i<=n) (λi _=>n-i) lo ps sB ⟨DP.start hD hn,hl⟩ ?_
 rintro i q w1 ⟨H,hr⟩;refine ciR (λh=>?_) (λh=>?_)
 .refine ρ ?_;exact Ys ⟨q,H⟩
 have a5:2*i+1<hi:=by have:=oF h;omega
 refine ρ ?_;refine Zv (fun (b:Bool)=>[(0,.slice A n c),(2,.int .i64 (hi:Int)),(3,.int .i64 (fst:Int)),(4,.func (.func fid) first cap),(10,.int .i64 (i:Int)),(11,.int .i64 (2*(i:Int)+1)),(40,.bool b)]) (λb w'=>DP w w' base A n c ps q/\(b=true->2*i+2<hi)) ?_ ?_
 .skip
  refine dr (scq 22 [19]) kr ?_;have U:=H.drew;refine ρd ?_;refine dki 23 (λh=>?_) (λh=>?_)
  .have Z:2*i+2<hi:=by have:=oT h;omega
   have li:fst+(2*i+1)<n:=om
   have lj:fst+(2*i+1)+1<n:=om
   refine Jc (fst+(2*i+1)) U.rd li ?_;refine Jz (U.cell li) ?_;refine Jc (fst+(2*i+1)+1) U.rd lj ?_;refine Jz (U.cell lj) ?_;refine ρd ?_;refine Vt (hC.call U li lj) ?_;rintro r a3 ⟨a7,rfl,O⟩;refine⟨O,?_⟩;have H2:=U.ext O;refine ρd ?_;refine ρ ?_;exact Jf _ sB ⟨H2,λ_=>Z⟩
  refine ρd ?_;refine ρ ?_;exact Jf false sB ⟨U,λe=>by cases e⟩
 rintro b w2 ⟨H2,a1⟩;refine Zv (fun (j:Nat)=>[(0,.slice A n c),(2,.int .i64 (hi:Int)),(3,.int .i64 (fst:Int)),(4,.func (.func fid) first cap),(10,.int .i64 (i:Int)),(11,.int .i64 (j:Int))]) (λj w'=>DP w w' base A n c ps q/\i<j/\j<hi) ?_ ?_
 .refine ci (λh=>?_) (λh=>?_)
  .have:=a1 h;refine ρ ?_;exact Jf (2*i+2) sO ⟨H2,om,om⟩
  refine ρ ?_;exact Jf (2*i+1) sO ⟨H2,om,om⟩
 rintro j w3 ⟨H3,Z,a4⟩;have D:fst+i<n:=om
 have G:fst+j<n:=om
 refine drR (scq 16 [13]) ?_;have C:=H3.drew;refine ρd ?_;refine Jc (fst+i) C.rd D ?_;refine Jz (C.cell D) ?_;refine Jc (fst+j) C.rd G ?_;refine Jz (C.cell G) ?_;refine ρd ?_;refine Vt (hC.call C D G) ?_;rintro r a2 ⟨a6,rfl,J⟩;refine⟨J,?_⟩;have H4:=C.ext J;refine ρd ?_;refine ciR (λh=>?_) (λh=>?_)
 .refine ρ ?_;exact Jzp ⟨q,H4⟩
 refine ρ ?_;refine drC 4 [0,1,2,3,4,5,6,7,8,9,10,11,14,15,16,17] [(0,12),(0,13),(0,18),(0,19),(0,20),(2,21),(2,22),(2,23)] kr ?_;have o:=H4.drew;obtain⟨s1,s2,s3,⟨u,s4⟩,s5,s6⟩:=o.swap D G;refine ρp ?_;refine dix (fst+j) o.rd G ?_;refine Jz (o.cell G) ?_;refine Jc (fst+i) o.rd D ?_;refine Jz (o.cell D) ?_;refine Jc (fst+i) o.rd D ?_;refine ρd ?_;refine Qj ?_;refine sto (o.cell D) s1 ?_ (hv:=o.one G);refine ρ ?_;refine Qu ?_;refine Qj ?_;refine ix (fst+j) s2 G ?_;refine ρ ?_;refine Qu ?_;refine Qj ?_;refine sto s4 s3 ?_ (hv:=o.one D);refine ρ ?_;exact Jl j (swp z0 q (fst+i) (fst+j)) sB ⟨s5,om⟩ om
theorem Qtg(hD:Dat w base (.slice A n c) ps)(hn:ps.length=n)(hmx:n<=140737488355328)(hC:CF w (Value.slice A n c).ownBlock fid first cap ps ds)(hai:ai=(a:Int))(hbi:bi=(b:Int))(hab:a<b)(hb:b<=n):
  Ret Tryz.prog 214 [.slice A n c,.int .i64 ai,.int .i64 bi,.func (.func fid) first cap] w λv w'=>∃ ps',DP w w' base A n c ps ps':=by
 subst hai;subst hbi;refine enE Tryz.func214 Tryz.ntmps214 ?_;refine ρ ?_;refine qn (b-a-1) 2 ?_;refine ρ ?_;refine Jo (fun (i:Nat) (q:List Pr)=>[(0,.slice A n c),(3,.func (.func fid) first cap),(8,.int .i64 (a:Int)),(9,.int .i64 0),(10,.int .i64 ((b:Int)-(a:Int))),(11,.int .i64 ((i:Int)-1))])
  (λi q w'=>DP w w' base A n c ps q/\i<=n) (λi _=>i) ((b-a-1) / 2+1) ps sO ⟨DP.start hD hn,om⟩ ?_
 rintro i q Z ⟨H,hi⟩;refine ciR (λh=>?_) (λh=>?_)
 .have J:0<i:=by have:=oT h;omega
  refine clR (Jrr (lo:=i-1) (hi:=b-a) (fst:=a) (loi:=(i:Int)-1) (hii:=(b:Int)-(a:Int)) H.d H.l hmx (hC.step H) om om rfl om om) ?_;rintro v U ⟨G,O⟩;refine ρ ?_;exact Jl (i-1) G sO ⟨H.after O,om⟩ om
 refine ρ ?_;refine Jo (fun (i:Nat) (q:List Pr)=>[(0,.slice A n c),(3,.func (.func fid) first cap),(8,.int .i64 (a:Int)),(9,.int .i64 0),(12,.int .i64 ((i:Int)-1))])
  (λi q w'=>DP w w' base A n c ps q/\i<=b-a) (λi _=>i) (b-a) q sO ⟨H,om⟩ ?_
 rintro i q Z ⟨H,hi⟩;refine ciR (λh=>?_) (λh=>?_)
 .have J:0<i:=by have:=oT h;omega
  have o:a<n:=om
  have C:a+(i-1)<n:=om
  refine ρ ?_;refine drC 4 [0,1,2,3,4,5,6,7,8,9,12,13] [(0,10),(0,11),(0,14),(0,15),(0,16),(2,17),(2,18),(2,19)] kr ?_;have j:=H.drew;obtain⟨s1,s2,s3,⟨u,s4⟩,D,s6⟩:=j.swap o C;refine ρp ?_;refine dix (a+(i-1)) j.rd C ?_;refine Jz (j.cell C) ?_;refine Jc (a) j.rd o ?_;refine Jz (j.cell o) ?_;refine Jc (a) j.rd o ?_;refine ρd ?_;refine Qj ?_;refine sto (j.cell o) s1 ?_ (hv:=j.one C);refine ρ ?_;refine Qu ?_;refine Qj ?_;refine ix (a+(i-1)) s2 C ?_;refine ρ ?_;refine Qu ?_;refine Qj ?_;refine sto s4 s3 ?_ (hv:=j.one o);refine clR (Jrr (lo:=0) (hi:=i-1) (fst:=a) (loi:=0) (hii:=(i:Int)-1) D.d D.l hmx (hC.step D) rfl om rfl om om) ?_;rintro v U ⟨G,O⟩;refine ρ ?_;exact Jl (i-1) G sO ⟨D.after O,om⟩ om
 refine ρ ?_;exact Ys ⟨q,H⟩
open Go.RowKit Pl Go.Wk _root_.Go.Proofs.Tryz
variable {cap first:Array Value}{fid:FuncId}{ai bi s:Int}{ds:List Bool}{ps q:List Pr}{a b base c e g n:Nat}{A:Option Addr}{w w0:World}
theorem zInt: Qa prog 3=some (.int .i64 0):=kr
theorem zXor: Qa prog 325=some (.int .u64 0):=kr
theorem Jgd(H:DP w0 w base A n c ps q)(hmx:n<=140737488355328)(hC:CF w0 (Value.slice A n c).ownBlock fid first cap ps ds)(hB:Blk w g 3 [.int .i64 s])(hg:w0.heap.size<=g)(ha:a<n)(hb:b<n):
  Ret prog 251 [.slice A n c,.int .i64 (a:Int),.int .i64 (b:Int),.pointer (some ⟨g,0,none⟩),.func (.func fid) first cap] w λr w'=>∃ x y:Nat,∃ s':Int,r=.tuple #[.int .i64 (x:Int),.int .i64 (y:Int)]/\((x=a/\y=b)∨(x=b/\y=a))/\DP w0 w' base A n c ps q/\Blk w' g 3 [.int .i64 s']:=by
 refine enE func251 ntmps251 ?_;refine drR (scq 11 [9]) ?_;have o:=H.drew;refine ρd ?_;refine Jc (b) o.rd hb ?_;refine Jz (o.cell hb) ?_;refine Jc (a) o.rd ha ?_;refine Jz (o.cell ha) ?_;refine ρd ?_;refine Vt (hC.call o hb ha) ?_;rintro r C ⟨D,rfl,j⟩;refine⟨j,?_⟩;have u:=o.ext j;refine ρd ?_;refine ρ ?_;have i:=(hB.ext (Ext.refl w).drew).ext j;refine ci (λh=>?_) (λh=>?_)
 .refine ldR (i.cell 0) ?_;refine Xv (i.cell 0) (i.frozen 0) ?_;refine ρ ?_;exact Vc ⟨b,a,_,rfl,.inr ⟨rfl,rfl⟩,u.box i rfl hg _,i.set 0 _⟩
 refine ρ ?_;exact Vc ⟨a,b,_,rfl,.inl ⟨rfl,rfl⟩,u,i⟩
theorem Qjt(H:DP w0 w base A n c ps q)(hmx:n<=140737488355328)(hC:CF w0 (Value.slice A n c).ownBlock fid first cap ps ds)(hB:Blk w g 3 [.int .i64 s])(hg:w0.heap.size<=g)(ha:a<n)(hb:b<n)(he:e<n):
  Ret prog 235 [.slice A n c,.int .i64 (a:Int),.int .i64 (b:Int),.int .i64 (e:Int),.pointer (some ⟨g,0,none⟩),.func (.func fid) first cap] w λr w'=>∃ m:Nat,∃ s':Int,r=.int .i64 (m:Int)/\(m=a∨m=b∨m=e)/\DP w0 w' base A n c ps q/\Blk w' g 3 [.int .i64 s']:=by
 refine enE func235 ntmps235 ?_;refine clR (Jgd H hmx hC hB hg ha hb) ?_;rintro r w1 ⟨G,D,s1,rfl,e1,U,o⟩;refine clR (Jgd (a:=D) (b:=e) U hmx hC o hg om he) ?_;rintro r w2 ⟨C,e2,s2,rfl,e3,O,j⟩;refine clR (Jgd (a:=G) (b:=C) O hmx hC j hg om om) ?_;rintro r Z ⟨a3,u,s3,rfl,e4,J,i⟩;refine ρ ?_;exact Jj ⟨u,_,rfl,om,J,i⟩
theorem Jgp(H:DP w0 w base A n c ps q)(hmx:n<=140737488355328)(hC:CF w0 (Value.slice A n c).ownBlock fid first cap ps ds)(hB:Blk w g 3 [.int .i64 s])(hg:w0.heap.size<=g)(hai:ai=(a:Int))(ha:0<a)(hb:a+1<n):
  Ret prog 234 [.slice A n c,.int .i64 ai,.pointer (some ⟨g,0,none⟩),.func (.func fid) first cap] w λr w'=>∃ m:Nat,∃ s':Int,r=.int .i64 (m:Int)/\(m=a∨m+1=a∨m=a+1)/\DP w0 w' base A n c ps q/\Blk w' g 3 [.int .i64 s']:=by
 subst hai;refine enE func234 ntmps234 ?_;refine ρ ?_;have o:a-1<n:=om
 have j:((a:Int)-1)=((a-1:Nat):Int):=om
 have u:((a:Int)+1)=((a+1:Nat):Int):=om
 rw[j,u];refine cl (Qjt H hmx hC hB hg o (by omega:a<n) hb) ?_;rintro r D ⟨m,G,rfl,j,C,i⟩;refine ρ ?_;exact Jj ⟨m,_,rfl,om,C,i⟩
theorem Xxl(hD:Dat w base (.slice A n c) ps)(hn:ps.length=n)(hmx:n<=140737488355328)(hC:CF w (Value.slice A n c).ownBlock fid first cap ps ds)(hai:ai=(a:Int))(hbi:bi=(b:Int))(hab:a+12<b)(hb:b<=n):
  Ret prog 216 [.slice A n c,.int .i64 ai,.int .i64 bi,.func (.func fid) first cap] w λr w'=>∃ m:Nat,∃ z:Int,r=.tuple #[.int .i64 (m:Int),.int .i64 z]/\a<=m/\m<b/\DP w w' base A n c ps ps:=by
 subst hai;subst hbi;refine enE func216 ntmps216 ?_;refine Jv zInt ?_;intro w1 g u o Z;have H1:=(DP.start hD hn).ext u;refine ρ ?_;refine qn (b-a) 4 ?_;refine ρ ?_;refine qn (b-a) 4 ?_;refine ρ ?_;refine qn (b-a) 4 ?_;refine ctR ?_ ?_
 .exact decide_eq_true om
 have hq:(b-a) / 4<=(b-a)/\3<=(b-a) / 4/\4*((b-a) / 4)<=b-a:=om
 generalize (b-a) / 4=l4 at hq ⊢
 refine ρ ?_;refine Jnw (fun (i j k:Nat)=>[(0,.slice A n c),(3,.func (.func fid) first cap),(11,.pointer (some ⟨g,0,none⟩)),(12,.int .i64 (i:Int)),(13,.int .i64 (j:Int)),(14,.int .i64 (k:Int))])
  (λi j k w'=>DP w w' base A n c ps ps/\(∃ s:Int,Blk w' g 3 [.int .i64 s])/\a<=i/\i<b/\a<=j/\j<b/\a<=k/\k<b) ?_ ?_
 .refine ci (λh=>?_) (λh=>?_)
  .have a1:=oT h;refine clR (Jgp (a:=a+l4) (ai:=(a:Int)+(l4:Int)*1) H1 hmx hC Z o om om om) ?_;rintro r w2 ⟨i,s2,rfl,e2,H2,O⟩;refine clR (Jgp (a:=a+l4*2) (ai:=(a:Int)+(l4:Int)*2) H2 hmx hC O o om om om) ?_;rintro r w3 ⟨j,s3,rfl,e3,H3,J⟩;refine clR (Jgp (a:=a+l4*3) (ai:=(a:Int)+(l4:Int)*3) H3 hmx hC J o om om om) ?_;rintro r w4 ⟨k,s4,rfl,e4,H4,G⟩;refine ρ ?_;exact Jyt i j k sB ⟨H4,⟨_,G⟩,om,om,om,om,om,om⟩
  refine ρ ?_;exact Jyt (a+l4) (a+l4*2) (a+l4*3) sO ⟨H1,⟨_,Z⟩,om,om,om,om,om,om⟩
 rintro i j k w5 ⟨H5,⟨s5,D⟩,h1,h2,h3,h4,h5,h6⟩;refine clR (Qjt H5 hmx hC D o (by omega:i<n) (by omega:j<n) (by omega:k<n)) ?_;rintro r w6 ⟨m,s6,rfl,e6,U,C⟩;refine ldR (C.cell 0) ?_;refine ciR (λh=>?_) (λh=>?_)
 .refine ρ ?_;exact Vc ⟨m,_,rfl,om,om,U⟩
 refine ciR (λh=>?_) (λh=>?_)
 .refine ρ ?_;exact Vc ⟨m,_,rfl,om,om,U⟩
 refine ρ ?_;exact Vc ⟨m,_,rfl,om,om,U⟩
open Go.RowKit Pl Go.Wk _root_.Go.Proofs.Tryz
variable {ai bi mi r:Int}{ps q:List Pr}{a b base c g m n:Nat}{A:Option Addr}{w w0:World}
theorem Qwp(op:BinOp)(x y:Int): 0<=bits op .u64 x y/\bits op .u64 x y<=18446744073709551615:=by
 unfold bits;rw[IntKind.wrap_u64];omega
theorem Qyr(H:DP w0 w base A n c ps q)(hB:Blk w g 325 [.int .u64 r])(hg:w0.heap.size<=g):
  Ret prog 233 [.pointer (some ⟨g,0,none⟩)] w λv w'=>∃ r',v=.int .u64 r'/\0<=r'/\r'<=18446744073709551615/\DP w0 w' base A n c ps q/\Blk w' g 325 [.int .u64 r']:=by
 refine enE func233 ntmps233 ?_;refine drR (scq 10 [109]) ?_;have b0:=hB.ext (Ext.refl _).drew;have h0:=H.drew;refine Jz (b0.cell 0) ?_;refine Jz (b0.cell 0) ?_;refine ρd ?_;refine dshl ?_;refine ρd ?_;obtain⟨D,U⟩:∃ z,z=bits .xor .u64 r (IntKind.u64.wrap (r*2^min (13:Int).toNat IntKind.u64.bits)):=⟨_,rfl⟩;refine dkv 10 (u:=.int .u64 D) (congrArg (Value.int .u64) U.symm) ?_;refine Qj ?_;refine sto (b0.cell 0) (b0.frozen 0) ?_;refine ρ ?_;have H1:=h0.box b0 rfl hg (.int .u64 D);have a1:=b0.set 0 (.int .u64 D);refine dr (scq 10 [109]) kr ?_;have o:=a1.ext (Ext.refl _).drew;have h1:=H1.drew;refine Jz (o.cell 0) ?_;refine Jz (o.cell 0) ?_;refine ρd ?_;refine dshr ?_;refine ρd ?_;obtain⟨C,O⟩:∃ z,z=bits .xor .u64 D (D.fdiv (2^min (7:Int).toNat IntKind.u64.bits)):=⟨_,rfl⟩;refine dkv 19 (u:=.int .u64 C) (congrArg (Value.int .u64) O.symm) ?_;refine Qj ?_;refine sto (o.cell 0) (o.frozen 0) ?_
 refine ρ ?_;have H2:=h1.box o rfl hg (.int .u64 C);have Z:=o.set 0 (.int .u64 C);refine dr (scq 10 [109]) kr ?_;have j:=Z.ext (Ext.refl _).drew;have h2:=H2.drew;refine Jz (j.cell 0) ?_;refine Jz (j.cell 0) ?_;refine ρd ?_;refine dshl ?_;refine ρd ?_;obtain⟨J,i⟩:∃ z,z=bits .xor .u64 C (IntKind.u64.wrap (C*2^min (17:Int).toNat IntKind.u64.bits)):=⟨_,rfl⟩;refine dkv 28 (u:=.int .u64 J) (congrArg (Value.int .u64) i.symm) ?_;refine Qj ?_;refine sto (j.cell 0) (j.frozen 0) ?_;refine ρ ?_;have H3:=h2.box j rfl hg (.int .u64 J);have G:=j.set 0 (.int .u64 J);refine ld (G.cell 0) ?_;refine ρ ?_;exact Jj ⟨J,rfl,by rw[i];exact(Qwp _ _ _).1,by rw[i];exact(Qwp _ _ _).2,H3,G⟩
theorem Qnj(hmi:mi=(m:Int))(h0:0<m)(hm:m<=140737488355328)(w:World): Ret prog 232 [.int .i64 mi] w λv w'=>∃ p:Nat,v=.int .u64 (p:Int)/\0<p/\p<=2*m/\w'=w:=by
 subst hmi;refine enE func232 ntmps232 ?_;refine ρ ?_;refine kv 4 (u:=.int .u64 (m:Int)) (congrArg (Value.int .u64) (Uu om)) ?_;refine cl (Jlx m om w) ?_;rintro v w' ⟨rfl,rfl⟩;refine ρ ?_;refine wshl rfl rfl om rfl ?_;obtain⟨D,C⟩:=Qqp (x:=m) om;have o:Qz m<=48:=Jql om;have j:2^Qz m=2*2^(Qz m-1):=by rw[<-Nat.pow_succ'];congr 1;omega
 have e:IntKind.u64.wrap (1*2^min ((Qz m:Nat):Int).toNat IntKind.u64.bits)=((2^Qz m:Nat):Int):=by
  have i:min ((Qz m:Nat):Int).toNat IntKind.u64.bits=Qz m:=by simp only[Int.toNat_natCast];exact Nat.min_eq_left (by show Qz m<=64;omega)
  rw[i,Int.one_mul];have:((2^Qz m:Nat):Int)=(2:Int)^Qz m:=by push_cast;rfl
  rw[<-this];exact Uu om
 refine kv 6 (congrArg (Value.int .u64) e) ?_;refine ρ ?_;exact Jj ⟨2^Qz m,rfl,Nat.pow_pos om,om,rfl⟩
theorem Xzb{fid:FuncId}{first cap:Array Value}{ds:List Bool}(hD:Dat w base (.slice A n c) ps)(hn:ps.length=n)(hmx:n<=140737488355328)(hC:CF w (Value.slice A n c).ownBlock fid first cap ps ds)(hai:ai=(a:Int))(hbi:bi=(b:Int))(hab:a+12<b)(hb:b<=n):
  Ret prog 215 [.slice A n c,.int .i64 ai,.int .i64 bi,.func (.func fid) first cap] w λv w'=>∃ ps',DP w w' base A n c ps ps':=by
 subst hai;subst hbi;refine enE func215 ntmps215 ?_;refine ctR ?_ ?_
 .exact decide_eq_true om
 refine Jv zXor ?_;intro w1 g U hg J;have H1:=(DP.start hD hn).ext U;refine Xv (J.cell 0) (J.frozen 0) ?_;have H2:=H1.box J rfl hg (.int .u64 (IntKind.u64.wrap ((b:Int)-(a:Int))));have a5:=J.set 0 (.int .u64 (IntKind.u64.wrap ((b:Int)-(a:Int))));refine clR (Qnj (m:=b-a) (mi:=(b:Int)-(a:Int)) om om om _) ?_;rintro v w' ⟨j,rfl,aa,a9,rfl⟩;refine ρ ?_;refine qn (b-a) 4 ?_;refine ρ ?_;have hq:(b-a) / 4<=(b-a)/\3<=(b-a) / 4/\4*((b-a) / 4)<=b-a:=om
 refine Jo (fun (idx:Nat) (q:List Pr)=>[(0,.slice A n c),(1,.int .i64 (a:Int)),(8,.int .i64 ((b:Int)-(a:Int))),(9,.pointer (some ⟨g,0,none⟩)),(10,.int .u64 (j:Int)),(11,.int .i64 (idx:Int))])
  (λidx q w'=>DP w w' base A n c ps q/\(∃ r:Int,Blk w' g 325 [.int .u64 r])/\a<=idx/\idx<=n) (λidx _=>n-idx) (a+((b-a) / 4)*2-1) ps sO ⟨H2,⟨_,a5⟩,om,om⟩ ?_
 rintro idx q w3 ⟨H3,⟨r3,a4⟩,ac,hi⟩;refine ρ ?_;refine qn (b-a) 4 ?_;refine ciR (λh=>?_) (λh=>?_)
 .have a7:idx<=a+((b-a) / 4)*2+1:=by have:=oT h;omega
  refine clR (Qyr H3 a4 hg) ?_;rintro v w4 ⟨O,rfl,Z,a8,H4,G⟩;refine ρ ?_;have ho:∃ o:Nat,bits .and .u64 O (IntKind.u64.wrap ((j:Int)-1))=(o:Int)/\o<2*(b-a):=by
   obtain⟨r,rfl⟩:=Int.eq_ofNat_of_zero_le Z;have e:IntKind.u64.wrap ((j:Int)-1)=((j-1:Nat):Int):=by rw[Uu om];omega
   rw[e];refine⟨r &&& (j-1),bits_and_u64_nat r (j-1) om om,?_⟩;have:=Nat.and_le_right (n:=r) (m:=j-1);omega
  obtain⟨o,a1,ab⟩:=ho;refine Zv (fun (o:Nat)=>[(0,.slice A n c),(1,.int .i64 (a:Int)),(8,.int .i64 ((b:Int)-(a:Int))),(9,.pointer (some ⟨g,0,none⟩)),(10,.int .u64 (j:Int)),(11,.int .i64 (idx:Int)),(12,.int .i64 (o:Int))]) (λo w'=>DP w w' base A n c ps q/\Blk w' g 325 [.int .u64 O]/\o<b-a) ?_ ?_
  .have a6:IntKind.i64.wrap (bits .and .u64 O (IntKind.u64.wrap ((j:Int)-1)))=(o:Int):=by rw[a1];exact Kr om
   rw[a6];refine ci (λh=>?_) (λh=>?_)
   .have h1:=oT h;refine ρ ?_;exact Jf (o-(b-a)) sO ⟨H4,G,om⟩
   have h1:=oF h;refine ρ ?_;exact Jf o sB ⟨H4,G,om⟩
  rintro o w5 ⟨H5,a3,ho⟩;have C:idx<n:=om
  have D:a+o<n:=om
  refine ρ ?_;refine drC 4 [0,1,2,3,4,5,6,7,8,9,12,13] [(0,10),(0,11),(0,14),(0,15),(0,16),(2,17),(2,18),(2,19)] kr ?_;have i:=H5.drew;obtain⟨s1,s2,s3,⟨u,s4⟩,s5,s6⟩:=i.swap C D;refine ρp ?_;refine dix (a+o) i.rd D ?_;refine Jz (i.cell D) ?_;refine Jc (idx) i.rd C ?_;refine Jz (i.cell C) ?_;refine Jc (idx) i.rd C ?_;refine ρd ?_;refine Qj ?_;refine sto (i.cell C) s1 ?_ (hv:=i.one D);refine ρ ?_;refine Qu ?_;refine Qj ?_;refine ix (a+o) s2 D ?_;refine ρ ?_;refine Qu ?_;refine Qj ?_;refine sto s4 s3 ?_ (hv:=i.one C);refine ρ ?_;have b5:=a3.ext (Ext.refl _).drew;have a2:=b5.grown s6 (b5.ne_own i.d.1 rfl);exact Jl (idx+1) (swp z0 q idx (a+o)) sO ⟨s5,⟨_,a2⟩,om,om⟩ om
 refine ρ ?_;exact Ys ⟨q,H3⟩
open Go.RowKit Pl Go.Wk _root_.Go.Proofs.Tryz
variable {cap first:Array Value}{fid:FuncId}{ai bi pvi:Int}{ds:List Bool}{ps:List Pr}{a b base c n:Nat}{A:Option Addr}{w:World}
theorem Qlx(hD:Dat w base (.slice A n c) ps)(hn:ps.length=n)(hmx:n<=140737488355328)(hC:CF w (Value.slice A n c).ownBlock fid first cap ps ds){pv:Nat}(hai:ai=(a:Int))(hbi:bi=(b:Int))(hpvi:pvi=(pv:Int))(hab:a<b)(hb:b<=n)(hp0:a<=pv)(hp1:pv<b):
  Ret prog 219 [.slice A n c,.int .i64 ai,.int .i64 bi,.int .i64 pvi,.func (.func fid) first cap] w λv w'=>∃ ps',DP w w' base A n c ps ps'/\∃ m:Nat,v=.int .i64 (m:Int)/\a<m/\m<=b:=by
 subst hai;subst hbi;subst hpvi;refine enE func219 ntmps219 ?_;refine ρ ?_;have H:=DP.start hD hn;have la:a<n:=om
 have lp:pv<n:=om
 refine drC 4 [0,1,2,3,4,5,8,9] [(0,6),(0,7),(0,10),(0,11),(0,12),(2,13),(2,14),(2,15)] kr ?_;have J:=H.drew;obtain⟨s1,s2,s3,⟨u,s4⟩,s5,s6⟩:=J.swap la lp;refine ρp ?_;refine dix (pv) J.rd lp ?_;refine Jz (J.cell lp) ?_;refine Jc (a) J.rd la ?_;refine Jz (J.cell la) ?_;refine Jc (a) J.rd la ?_;refine ρd ?_;refine Qj ?_;refine sto (J.cell la) s1 ?_ (hv:=J.one lp);refine ρ ?_;refine Qu ?_;refine Qj ?_;refine ix (pv) s2 lp ?_;refine ρ ?_;refine Qu ?_;refine Qj ?_;refine sto s4 s3 ?_ (hv:=J.one la);refine ρ ?_;refine Zq (fun (i j:Nat) (q:List Pr)=>[(0,.slice A n c),(1,.int .i64 (a:Int)),(2,.int .i64 (b:Int)),(4,.func (.func fid) first cap),(11,.int .i64 (i:Int)),(12,.int .i64 (j:Int))]) (λi j q w'=>DP w w' base A n c ps q/\a<i/\i<=b/\a<=j/\j<b) (λi j _=>b+j-i) (a+1) (b-1) _ sO ⟨s5,om⟩ ?_;clear s1 s2 s3 s4 s5 s6 u J H;rintro i0 j0 q w1 ⟨H,a5⟩;refine ρ ?_
 refine Qy (fun (i:Nat)=>[(0,.slice A n c),(1,.int .i64 (a:Int)),(2,.int .i64 (b:Int)),(4,.func (.func fid) first cap),(12,.int .i64 (j0:Int)),(11,.int .i64 (i:Int))]) (λi w'=>DP w w' base A n c ps q/\i0<=i/\a<i/\i<=b) (λi=>b-i) i0 sO ⟨H,om⟩ ?_;rintro i wS ⟨HS,a7⟩;refine ρ ?_;refine Zv (fun (t:Bool)=>[(0,.slice A n c),(1,.int .i64 (a:Int)),(2,.int .i64 (b:Int)),(4,.func (.func fid) first cap),(12,.int .i64 (j0:Int)),(11,.int .i64 (i:Int)),(47,.bool t)]) (λt w'=>DP w w' base A n c ps q/\(t=true->i<=j0)) ?_ ?_
 .skip
  refine dr (scq 17 [13]) kr ?_;have o:=HS.drew;refine ρd ?_;refine dki 34 (λh=>?_) (λh=>?_)
  .have hT:i<=j0:=by have:=oT h;omega
   have U:a<n:=om
   have O:i<n:=om
   refine Jc (a) o.rd U ?_;refine Jz (o.cell U) ?_;refine Jc (i) o.rd O ?_;refine Jz (o.cell O) ?_;refine ρd ?_;refine Vt (hC.call o U O) ?_;rintro r a3 ⟨a4,rfl,D⟩;refine⟨D,?_⟩;have HT:=o.ext D;refine ρd ?_;refine ρ ?_;exact Jf _ sB ⟨HT,λ_=>hT⟩
  refine ρd ?_;refine ρ ?_;exact Jf false sB ⟨o,λe=>by cases e⟩
 rintro t a2 ⟨a1,G⟩;refine ci (λh=>?_) (λh=>?_)
 .have:=G h;refine ρ ?_;exact Qw (i+1) sO ⟨a1,om⟩ om
 clear G HS h;refine ρ ?_;refine Qy (fun (j:Nat)=>[(0,.slice A n c),(1,.int .i64 (a:Int)),(2,.int .i64 (b:Int)),(4,.func (.func fid) first cap),(11,.int .i64 (i:Int)),(12,.int .i64 (j:Int))]) (λj w'=>DP w w' base A n c ps q/\j<=j0/\a<=j/\j<b) (λj=>j) j0 sO ⟨a1,om⟩ ?_;rintro j wS ⟨HS,a6⟩;refine ρ ?_;refine Zv (fun (t:Bool)=>[(0,.slice A n c),(1,.int .i64 (a:Int)),(2,.int .i64 (b:Int)),(4,.func (.func fid) first cap),(11,.int .i64 (i:Int)),(12,.int .i64 (j:Int)),(65,.bool t)]) (λt w'=>DP w w' base A n c ps q/\(t=true->i<=j)) ?_ ?_
 .skip
  refine dr (scq 16 [13]) kr ?_;have o:=HS.drew;refine ρd ?_;refine dki 53 (λh=>?_) (λh=>?_)
  .have hT:i<=j:=by have:=oT h;omega
   have U:a<n:=om
   have O:j<n:=om
   refine Jc (a) o.rd U ?_;refine Jz (o.cell U) ?_;refine Jc (j) o.rd O ?_;refine Jz (o.cell O) ?_;refine ρd ?_;refine Vt (hC.call o U O) ?_;rintro r a3 ⟨a4,rfl,D⟩;refine⟨D,?_⟩;have HT:=o.ext D;refine ρd ?_;refine ρ ?_;exact Jf _ sB ⟨HT,λ_=>hT⟩
  refine ρd ?_;refine ρ ?_;exact Jf false sB ⟨o,λe=>by cases e⟩
 rintro t a2 ⟨Z,G⟩;refine ci (λh=>?_) (λh=>?_)
 .have:=G h;refine ρ ?_;exact Qw (j-1) sO ⟨Z,om⟩ om
 clear G HS h;refine ciR (λh=>?_) (λh=>?_)
 .refine ρ ?_;exact Jj ⟨q,Z,i,rfl,om,om⟩
 have hT:i<=j:=by have:=oF h;omega
 have li:i<n:=om
 have lj:j<n:=om
 refine ρ ?_;refine drC 4 [0,1,2,3,4,5,8,9] [(0,6),(0,7),(0,10),(0,11),(0,12),(2,13),(2,14),(2,15)] kr ?_;have C:=Z.drew;obtain⟨s1,s2,s3,⟨u,s4⟩,s5,s6⟩:=C.swap li lj;refine ρp ?_;refine dix (j) C.rd lj ?_;refine Jz (C.cell lj) ?_;refine Jc (i) C.rd li ?_;refine Jz (C.cell li) ?_;refine Jc (i) C.rd li ?_;refine ρd ?_;refine Qj ?_;refine sto (C.cell li) s1 ?_ (hv:=C.one lj);refine ρ ?_;refine Qu ?_;refine Qj ?_;refine ix (j) s2 lj ?_;refine ρ ?_;refine Qu ?_;refine Qj ?_;refine sto s4 s3 ?_ (hv:=C.one li);refine ρ ?_;exact Xq (i+1) (j-1) _ sO ⟨s5,om⟩ om
theorem Qlw(hD:Dat w base (.slice A n c) ps)(hn:ps.length=n)(hmx:n<=140737488355328)(hC:CF w (Value.slice A n c).ownBlock fid first cap ps ds){pv:Nat}(hai:ai=(a:Int))(hbi:bi=(b:Int))(hpvi:pvi=(pv:Int))(hab:a<b)(hb:b<=n)(hp0:a<=pv)(hp1:pv<b):
  Ret prog 220 [.slice A n c,.int .i64 ai,.int .i64 bi,.int .i64 pvi,.func (.func fid) first cap] w λv w'=>∃ ps',DP w w' base A n c ps ps'/\∃(m:Nat) (t:Bool),v=.tuple #[.int .i64 (m:Int),.bool t]/\a<=m/\m<b:=by
 subst hai;subst hbi;subst hpvi;refine enE func220 ntmps220 ?_;refine ρ ?_;have H:=DP.start hD hn;have la:a<n:=om
 have lp:pv<n:=om
 refine drC 4 [0,1,2,3,4,5,8,9] [(0,6),(0,7),(0,10),(0,11),(0,12),(2,13),(2,14),(2,15)] kr ?_;have Hd:=H.drew;obtain⟨s1,s2,s3,⟨u,s4⟩,s5,s6⟩:=Hd.swap la lp;refine ρp ?_;refine dix (pv) Hd.rd lp ?_;refine Jz (Hd.cell lp) ?_;refine Jc (a) Hd.rd la ?_;refine Jz (Hd.cell la) ?_;refine Jc (a) Hd.rd la ?_;refine ρd ?_;refine Qj ?_;refine sto (Hd.cell la) s1 ?_ (hv:=Hd.one lp);refine ρ ?_;refine Qu ?_;refine Qj ?_;refine ix (pv) s2 lp ?_;refine ρ ?_;refine Qu ?_;refine Qj ?_;refine sto s4 s3 ?_ (hv:=Hd.one la);refine ρ ?_;generalize hq:swp z0 ps a pv=q at s5
 have H5:=s5;clear s1 s2 s3 s4 s5 s6 u Hd H hq;obtain⟨i0,a8⟩:∃ i0:Nat,i0=a+1:=⟨_,rfl⟩;obtain⟨Z,a7⟩:∃ Z:Nat,Z=b-1:=⟨_,rfl⟩;refine Qy (fun (i:Nat)=>[(0,.slice A n c),(1,.int .i64 (a:Int)),(2,.int .i64 (b:Int)),(4,.func (.func fid) first cap),(13,.int .i64 (Z:Int)),(12,.int .i64 (i:Int))]) (λi w'=>DP w w' base A n c ps q/\i0<=i/\a<i/\i<=b) (λi=>b-i) i0 sO ⟨H5,om⟩ ?_;rintro i wS ⟨HS,a6⟩;refine ρ ?_;refine Zv (fun (t:Bool)=>[(0,.slice A n c),(1,.int .i64 (a:Int)),(2,.int .i64 (b:Int)),(4,.func (.func fid) first cap),(13,.int .i64 (Z:Int)),(12,.int .i64 (i:Int)),(47,.bool t)]) (λt w'=>DP w w' base A n c ps q/\(t=true->i<=Z)) ?_ ?_
 .skip
  refine dr (scq 16 [13]) kr ?_;have C:=HS.drew;refine ρd ?_;refine dki 35 (λh=>?_) (λh=>?_)
  .have hT:i<=Z:=by have:=oT h;omega
   have lx:i<n:=om
   have ly:a<n:=om
   refine Jc (i) C.rd lx ?_;refine Jz (C.cell lx) ?_;refine Jc (a) C.rd ly ?_;refine Jz (C.cell ly) ?_;refine ρd ?_;refine Vt (hC.call C lx ly) ?_;rintro r a3 ⟨a4,rfl,D⟩;refine⟨D,?_⟩;have HT:=C.ext D;refine ρd ?_;refine ρ ?_;exact Jf _ sB ⟨HT,λ_=>hT⟩
  refine ρd ?_;refine ρ ?_;exact Jf false sB ⟨C,λe=>by cases e⟩
 rintro t a2 ⟨a1,O⟩;refine ci (λh=>?_) (λh=>?_)
 .have:=O h;refine ρ ?_;exact Qw (i+1) sO ⟨a1,om⟩ om
 clear O HS h;refine ρ ?_;refine Qy (fun (j:Nat)=>[(0,.slice A n c),(1,.int .i64 (a:Int)),(2,.int .i64 (b:Int)),(4,.func (.func fid) first cap),(12,.int .i64 (i:Int)),(13,.int .i64 (j:Int))]) (λj w'=>DP w w' base A n c ps q/\j<=Z/\a<=j/\j<b) (λj=>j) Z sO ⟨a1,om⟩ ?_;rintro j wS ⟨HS,a5⟩;refine ρ ?_;refine Zv (fun (t:Bool)=>[(0,.slice A n c),(1,.int .i64 (a:Int)),(2,.int .i64 (b:Int)),(4,.func (.func fid) first cap),(12,.int .i64 (i:Int)),(13,.int .i64 (j:Int)),(66,.bool t)]) (λt w'=>DP w w' base A n c ps q/\(t=true->i<=j)) ?_ ?_
 .skip
  refine dr (scq 17 [13]) kr ?_;have C:=HS.drew;refine ρd ?_;refine dki 53 (λh=>?_) (λh=>?_)
  .have hT:i<=j:=by have:=oT h;omega
   have lx:j<n:=om
   have ly:a<n:=om
   refine Jc (j) C.rd lx ?_;refine Jz (C.cell lx) ?_;refine Jc (a) C.rd ly ?_;refine Jz (C.cell ly) ?_;refine ρd ?_;refine Vt (hC.call C lx ly) ?_;rintro r a3 ⟨a4,rfl,D⟩;refine⟨D,?_⟩;have HT:=C.ext D;refine ρd ?_;refine ρ ?_;exact Jf _ sB ⟨HT,λ_=>hT⟩
  refine ρd ?_;refine ρ ?_;exact Jf false sB ⟨C,λe=>by cases e⟩
 rintro t a2 ⟨U,O⟩;refine ci (λh=>?_) (λh=>?_)
 .have:=O h;refine ρ ?_;exact Qw (j-1) sO ⟨U,om⟩ om
 clear O HS h;refine ρ ?_;have G:a<n:=om
 have J:j<n:=om
 refine ci (λh=>?_) (λh=>?_)
 .refine ρ ?_;refine drC 4 [0,1,2,3,4,5,8,9] [(0,6),(0,7),(0,10),(0,11),(0,12),(2,13),(2,14),(2,15)] kr ?_;have o:=U.drew;obtain⟨s1,s2,s3,⟨u,s4⟩,s5,s6⟩:=o.swap J G;refine ρp ?_;refine dix (a) o.rd G ?_;refine Jz (o.cell G) ?_;refine Jc (j) o.rd J ?_;refine Jz (o.cell J) ?_;refine Jc (j) o.rd J ?_;refine ρd ?_;refine Qj ?_;refine sto (o.cell J) s1 ?_ (hv:=o.one G);refine ρ ?_;refine Qu ?_;refine Qj ?_;refine ix (a) s2 G ?_;refine ρ ?_;refine Qu ?_;refine Qj ?_;refine sto s4 s3 ?_ (hv:=o.one J);refine ρ ?_;exact Vc ⟨_,s5,j,true,rfl,om,om⟩
 have hT:i<=j:=by have:=oF h;omega
 have li:i<n:=om
 refine ρ ?_;refine drC 4 [0,1,2,3,4,5,8,9] [(0,6),(0,7),(0,10),(0,11),(0,12),(2,13),(2,14),(2,15)] kr ?_;have o:=U.drew;obtain⟨s1,s2,s3,⟨u,s4⟩,s5,s6⟩:=o.swap li J;refine ρp ?_;refine dix (j) o.rd J ?_;refine Jz (o.cell J) ?_;refine Jc (i) o.rd li ?_;refine Jz (o.cell li) ?_;refine Jc (i) o.rd li ?_;refine ρd ?_;refine Qj ?_;refine sto (o.cell li) s1 ?_ (hv:=o.one J);refine ρ ?_;refine Qu ?_;refine Qj ?_;refine ix (j) s2 J ?_;refine ρ ?_;refine Qu ?_;refine Qj ?_;refine sto s4 s3 ?_ (hv:=o.one li);refine ρ ?_;refine Zq (fun (i j:Nat) (q:List Pr)=>[(0,.slice A n c),(1,.int .i64 (a:Int)),(2,.int .i64 (b:Int)),(4,.func (.func fid) first cap),(12,.int .i64 (i:Int)),(13,.int .i64 (j:Int))]) (λi j q w'=>DP w w' base A n c ps q/\a<i/\i<=b/\a<=j/\j<b) (λi j _=>b+j-i) (i+1) (j-1) _ sO ⟨s5,om⟩ ?_;clear s1 s2 s3 s4 s5 s6 u o U a1 a6 a5 a8 a7 G J li hT;clear h q i0 Z i j H5
 rintro i0 Z q w1 ⟨H,a9⟩;refine ρ ?_;refine Qy (fun (i:Nat)=>[(0,.slice A n c),(1,.int .i64 (a:Int)),(2,.int .i64 (b:Int)),(4,.func (.func fid) first cap),(13,.int .i64 (Z:Int)),(12,.int .i64 (i:Int))]) (λi w'=>DP w w' base A n c ps q/\i0<=i/\a<i/\i<=b) (λi=>b-i) i0 sO ⟨H,om⟩ ?_;rintro i wS ⟨HS,a6⟩;refine ρ ?_;refine Zv (fun (t:Bool)=>[(0,.slice A n c),(1,.int .i64 (a:Int)),(2,.int .i64 (b:Int)),(4,.func (.func fid) first cap),(13,.int .i64 (Z:Int)),(12,.int .i64 (i:Int)),(120,.bool t)]) (λt w'=>DP w w' base A n c ps q/\(t=true->i<=Z)) ?_ ?_
 .skip
  refine dr (scq 16 [13]) kr ?_;have C:=HS.drew;refine ρd ?_;refine dki 108 (λh=>?_) (λh=>?_)
  .have hT:i<=Z:=by have:=oT h;omega
   have lx:i<n:=om
   have ly:a<n:=om
   refine Jc (i) C.rd lx ?_;refine Jz (C.cell lx) ?_;refine Jc (a) C.rd ly ?_;refine Jz (C.cell ly) ?_;refine ρd ?_;refine Vt (hC.call C lx ly) ?_;rintro r a3 ⟨a4,rfl,D⟩;refine⟨D,?_⟩;have HT:=C.ext D;refine ρd ?_;refine ρ ?_;exact Jf _ sB ⟨HT,λ_=>hT⟩
  refine ρd ?_;refine ρ ?_;exact Jf false sB ⟨C,λe=>by cases e⟩
 rintro t a2 ⟨a1,O⟩;refine ci (λh=>?_) (λh=>?_)
 .have:=O h;refine ρ ?_;exact Qw (i+1) sO ⟨a1,om⟩ om
 clear O HS h;refine ρ ?_;refine Qy (fun (j:Nat)=>[(0,.slice A n c),(1,.int .i64 (a:Int)),(2,.int .i64 (b:Int)),(4,.func (.func fid) first cap),(12,.int .i64 (i:Int)),(13,.int .i64 (j:Int))]) (λj w'=>DP w w' base A n c ps q/\j<=Z/\a<=j/\j<b) (λj=>j) Z sO ⟨a1,om⟩ ?_;rintro j wS ⟨HS,a5⟩;refine ρ ?_;refine Zv (fun (t:Bool)=>[(0,.slice A n c),(1,.int .i64 (a:Int)),(2,.int .i64 (b:Int)),(4,.func (.func fid) first cap),(12,.int .i64 (i:Int)),(13,.int .i64 (j:Int)),(139,.bool t)]) (λt w'=>DP w w' base A n c ps q/\(t=true->i<=j)) ?_ ?_
 .skip
  refine dr (scq 17 [13]) kr ?_;have C:=HS.drew;refine ρd ?_;refine dki 126 (λh=>?_) (λh=>?_)
  .have hT:i<=j:=by have:=oT h;omega
   have lx:j<n:=om
   have ly:a<n:=om
   refine Jc (j) C.rd lx ?_;refine Jz (C.cell lx) ?_;refine Jc (a) C.rd ly ?_;refine Jz (C.cell ly) ?_;refine ρd ?_;refine Vt (hC.call C lx ly) ?_;rintro r a3 ⟨a4,rfl,D⟩;refine⟨D,?_⟩;have HT:=C.ext D;refine ρd ?_;refine ρ ?_;exact Jf _ sB ⟨HT,λ_=>hT⟩
  refine ρd ?_;refine ρ ?_;exact Jf false sB ⟨C,λe=>by cases e⟩
 rintro t a2 ⟨U,O⟩;refine ci (λh=>?_) (λh=>?_)
 .have:=O h;refine ρ ?_;exact Qw (j-1) sO ⟨U,om⟩ om
 clear O HS h;refine ρ ?_;have G:a<n:=om
 have J:j<n:=om
 refine ci (λh=>?_) (λh=>?_)
 .refine ρ ?_;refine drC 4 [0,1,2,3,4,5,8,9] [(0,6),(0,7),(0,10),(0,11),(0,12),(2,13),(2,14),(2,15)] kr ?_;have o:=U.drew;obtain⟨s1,s2,s3,⟨u,s4⟩,s5,s6⟩:=o.swap J G;refine ρp ?_;refine dix (a) o.rd G ?_;refine Jz (o.cell G) ?_;refine Jc (j) o.rd J ?_;refine Jz (o.cell J) ?_;refine Jc (j) o.rd J ?_;refine ρd ?_;refine Qj ?_;refine sto (o.cell J) s1 ?_ (hv:=o.one G);refine ρ ?_;refine Qu ?_;refine Qj ?_;refine ix (a) s2 G ?_;refine ρ ?_;refine Qu ?_;refine Qj ?_;refine sto s4 s3 ?_ (hv:=o.one J);refine ρ ?_;exact Vc ⟨_,s5,j,false,rfl,om,om⟩
 have hT:i<=j:=by have:=oF h;omega
 have li:i<n:=om
 refine ρ ?_;refine drC 4 [0,1,2,3,4,5,8,9] [(0,6),(0,7),(0,10),(0,11),(0,12),(2,13),(2,14),(2,15)] kr ?_;have o:=U.drew;obtain⟨s1,s2,s3,⟨u,s4⟩,s5,s6⟩:=o.swap li J;refine ρp ?_;refine dix (j) o.rd J ?_;refine Jz (o.cell J) ?_;refine Jc (i) o.rd li ?_;refine Jz (o.cell li) ?_;refine Jc (i) o.rd li ?_;refine ρd ?_;refine Qj ?_;refine sto (o.cell li) s1 ?_ (hv:=o.one J);refine ρ ?_;refine Qu ?_;refine Qj ?_;refine ix (j) s2 J ?_;refine ρ ?_;refine Qu ?_;refine Qj ?_;refine sto s4 s3 ?_ (hv:=o.one li);refine ρ ?_;exact Xq (i+1) (j-1) _ sO ⟨s5,om⟩ om
theorem Qlv(hD:Dat w base (.slice A n c) ps)(hn:ps.length=n)(hmx:n<=140737488355328)(hC:CF w (Value.slice A n c).ownBlock fid first cap ps ds)(hai:ai=(a:Int))(hbi:bi=(b:Int))(hab:a+1<b)(hb:b<=n):
  Ret prog 218 [.slice A n c,.int .i64 ai,.int .i64 bi,.func (.func fid) first cap] w λv w'=>∃ ps',DP w w' base A n c ps ps'/\∃ t:Bool,v=.bool t:=by
 subst hai;subst hbi;refine enE func218 ntmps218 ?_;refine ρ ?_;refine Zq (fun (k i:Nat) (q:List Pr)=>[(0,.slice A n c),(1,.int .i64 (a:Int)),(2,.int .i64 (b:Int)),(3,.func (.func fid) first cap),(9,.int .i64 (i:Int)),(10,.int .i64 (k:Int))]) (λk i q w'=>DP w w' base A n c ps q/\a<i/\i<=b/\k<=5) (λk _ _=>5-k) 0 (a+1) ps sO ⟨DP.start hD hn,om⟩ ?_;rintro k i0 q w1 ⟨H,a5⟩;refine ciR (λh=>?_) (λh=>?_);rotate_left
 .refine ρ ?_;exact Jj ⟨q,H,false,rfl⟩
 have hk:k<5:=by have:=oT h;omega
 clear h;refine ρ ?_;refine Qy (fun (i:Nat)=>[(0,.slice A n c),(1,.int .i64 (a:Int)),(2,.int .i64 (b:Int)),(3,.func (.func fid) first cap),(10,.int .i64 (k:Int)),(9,.int .i64 (i:Int))]) (λi w'=>DP w w' base A n c ps q/\i0<=i/\a<i/\i<=b) (λi=>b-i) i0 sO ⟨H,om⟩ ?_;rintro i wS ⟨HS,a7⟩;refine ρ ?_;refine Zv (fun (t:Bool)=>[(0,.slice A n c),(1,.int .i64 (a:Int)),(2,.int .i64 (b:Int)),(3,.func (.func fid) first cap),(10,.int .i64 (k:Int)),(9,.int .i64 (i:Int)),(36,.bool t)]) (λt w'=>DP w w' base A n c ps q/\(t=true->i<b)) ?_ ?_
 .skip
  refine dr (scq 18 [14]) kr ?_;have G:=HS.drew;refine ρd ?_;refine dki 22 (λh=>?_) (λh=>?_)
  .have hT:i<b:=by have:=oT h;omega
   have U:i<n:=om
   have ly:i-1<n:=om
   refine Jc (i) G.rd U ?_;refine Jz (G.cell U) ?_;refine Jc (i-1) G.rd ly ?_;refine Jz (G.cell ly) ?_;refine ρd ?_;refine Vt (hC.call G U ly) ?_;rintro r a1 ⟨a3,rfl,C⟩;refine⟨C,?_⟩;have HT:=G.ext C;refine ρd ?_;refine ρ ?_;exact Jf _ sB ⟨HT,λ_=>hT⟩
  refine ρd ?_;refine ρ ?_;exact Jf false sB ⟨G,λe=>by cases e⟩
 rintro t a4 ⟨O,a2⟩;refine ci (λh=>?_) (λh=>?_)
 .have:=a2 h;refine ρ ?_;exact Qw (i+1) sO ⟨O,om⟩ om
 clear a2 HS h;refine ciR (λh=>?_) (λh=>?_)
 .refine ρ ?_;exact Jj ⟨q,O,true,rfl⟩
 have a6:i<b:=by have:=Xu h;omega
 clear h;refine ciR (λh=>?_) (λh=>?_)
 .refine ρ ?_;exact Jj ⟨q,O,false,rfl⟩
 clear h;have U:i<n:=om
 have ly:i-1<n:=om
 refine ρ ?_;refine drC 4 [0,1,2,3,4,5,6,7,10,11] [(0,8),(0,9),(0,12),(0,13),(0,14),(2,15),(2,16),(2,17)] kr ?_;have o:=O.drew;obtain⟨s1,s2,s3,⟨u,s4⟩,s5,s6⟩:=o.swap U ly;refine ρp ?_;refine dix (i-1) o.rd ly ?_;refine Jz (o.cell ly) ?_;refine Jc (i) o.rd U ?_;refine Jz (o.cell U) ?_;refine Jc (i) o.rd U ?_;refine ρd ?_;refine Qj ?_;refine sto (o.cell U) s1 ?_ (hv:=o.one ly);refine ρ ?_;refine Qu ?_;refine Qj ?_;refine ix (i-1) s2 ly ?_;refine ρ ?_;refine Qu ?_;refine Qj ?_;refine sto s4 s3 ?_ (hv:=o.one U);refine ρ ?_;have H5:=s5;clear s1 s2 s3 s4 s5 s6 u o O H;generalize swp z0 q i (i-1)=q5 at H5
 refine Zv (fun (q:List Pr)=>[(0,.slice A n c),(1,.int .i64 (a:Int)),(2,.int .i64 (b:Int)),(3,.func (.func fid) first cap),(9,.int .i64 (i:Int)),(10,.int .i64 (k:Int))]) (λq w'=>DP w w' base A n c ps q) ?_ ?_
 .refine ci (λh=>?_) (λh=>?_);rotate_left
  .refine ρ ?_;exact Jf _ sB H5
  refine ρ ?_;refine Jo (fun (m:Nat) (q:List Pr)=>[(0,.slice A n c),(1,.int .i64 (a:Int)),(2,.int .i64 (b:Int)),(3,.func (.func fid) first cap),(9,.int .i64 (i:Int)),(10,.int .i64 (k:Int)),(11,.int .i64 (m:Int))]) (λm q w'=>DP w w' base A n c ps q/\m<n) (λm _=>m) (i-1) q5 sO ⟨H5,om⟩ ?_;rintro m q w2 ⟨H,Z⟩;refine ciR (λh=>?_) (λh=>?_);rotate_left
  .refine ρ ?_;exact Jf _ sB H
  have h1:1<=m:=by have:=oT h;omega
  have D:m-1<n:=om
  refine drR (scq 13 [10]) ?_;have J:=H.drew;refine ρd ?_;refine Jc (m) J.rd Z ?_;refine Jz (J.cell Z) ?_;refine Jc (m-1) J.rd D ?_;refine Jz (J.cell D) ?_;refine ρd ?_;refine Vt (hC.call J Z D) ?_;rintro r a1 ⟨a3,rfl,C⟩;refine⟨C,?_⟩;have HT:=J.ext C;refine ρd ?_;refine ciR (λh=>?_) (λh=>?_)
  .refine ρ ?_;exact Jf _ sB HT
  refine ρ ?_;refine drC 4 [0,1,2,3,4,5,6,7,10,11] [(0,8),(0,9),(0,12),(0,13),(0,14),(2,15),(2,16),(2,17)] kr ?_;have j:=HT.drew;obtain⟨s1,s2,s3,⟨u,s4⟩,s5,s6⟩:=j.swap Z D;refine ρp ?_;refine dix (m-1) j.rd D ?_;refine Jz (j.cell D) ?_;refine Jc (m) j.rd Z ?_;refine Jz (j.cell Z) ?_;refine Jc (m) j.rd Z ?_;refine ρd ?_;refine Qj ?_;refine sto (j.cell Z) s1 ?_ (hv:=j.one D);refine ρ ?_;refine Qu ?_;refine Qj ?_;refine ix (m-1) s2 D ?_;refine ρ ?_;refine Qu ?_;refine Qj ?_;refine sto s4 s3 ?_ (hv:=j.one Z);refine ρ ?_;exact Jl (m-1) _ sO ⟨s5,om⟩ om
 clear H5 q5;rintro q5 w5 H5;refine ciR (λh=>?_) (λh=>?_);rotate_left
 .refine ρ ?_;exact Xq (k+1) i q5 sO ⟨H5,om⟩ om
 refine ρ ?_;refine Jo (fun (m:Nat) (q:List Pr)=>[(0,.slice A n c),(1,.int .i64 (a:Int)),(2,.int .i64 (b:Int)),(3,.func (.func fid) first cap),(9,.int .i64 (i:Int)),(10,.int .i64 (k:Int)),(12,.int .i64 (m:Int))]) (λm q w'=>DP w w' base A n c ps q/\0<m/\m<=b) (λm _=>b-m) (i+1) q5 sO ⟨H5,om⟩ ?_;rintro m q w2 ⟨H,Z⟩;refine ciR (λh=>?_) (λh=>?_);rotate_left
 .refine ρ ?_;exact Xq (k+1) i q sO ⟨H,om⟩ om
 have h1:m<n:=by have:=oT h;omega
 have h2:m<b:=by have:=oT h;omega
 have D:m-1<n:=om
 refine drR (scq 13 [10]) ?_;have J:=H.drew;refine ρd ?_;refine Jc (m) J.rd h1 ?_;refine Jz (J.cell h1) ?_;refine Jc (m-1) J.rd D ?_;refine Jz (J.cell D) ?_;refine ρd ?_;refine Vt (hC.call J h1 D) ?_;rintro r a1 ⟨a3,rfl,C⟩;refine⟨C,?_⟩;have HT:=J.ext C;refine ρd ?_;refine ciR (λh=>?_) (λh=>?_)
 .refine ρ ?_;exact Xq (k+1) i q sO ⟨HT,om⟩ om
 refine ρ ?_;refine drC 4 [0,1,2,3,4,5,6,7,10,11] [(0,8),(0,9),(0,12),(0,13),(0,14),(2,15),(2,16),(2,17)] kr ?_;have j:=HT.drew;obtain⟨s1,s2,s3,⟨u,s4⟩,s5,s6⟩:=j.swap h1 D;refine ρp ?_;refine dix (m-1) j.rd D ?_;refine Jz (j.cell D) ?_;refine Jc (m) j.rd h1 ?_;refine Jz (j.cell h1) ?_;refine Jc (m) j.rd h1 ?_;refine ρd ?_;refine Qj ?_;refine sto (j.cell h1) s1 ?_ (hv:=j.one D);refine ρ ?_;refine Qu ?_;refine Qj ?_;refine ix (m-1) s2 D ?_;refine ρ ?_;refine Qu ?_;refine Qj ?_;refine sto s4 s3 ?_ (hv:=j.one h1);refine ρ ?_;exact Jl (m+1) _ sO ⟨s5,om⟩ om
open Go.RowKit Pl Go.Wk
variable {ps q q':List Pr}{base c n:Nat}{A:Option Addr}{w w' w0:World}
theorem DP.same(h:DP w0 w base A n c ps q)(k:DP w w' base A n c q q): DP w0 w' base A n c ps q:=h.after k
theorem DP.ins{a b:Nat}(h:DP w0 w base A n c ps q)(k1:Dat w' base (.slice A n c) q')(k2:Seg z0 a b q q')(k3:w.grownBy w' (Value.slice A n c).ownBlock): DP w0 w' base A n c ps q' :=
 ⟨k1,k2.perm.trans h.p,Zh h.g k3,by rw[k2.len];exact h.l⟩
theorem Qlr: ∀(m:Nat) {w:World} {base:Nat} {A:Option Addr} {n c:Nat} {fid:FuncId} {first cap:Array Value} {ps:List Pr} {ds:List Bool} (hD:Dat w base (.slice A n c) ps) (hn:ps.length=n) (hmx:n<=140737488355328) (hC:CF w (Value.slice A n c).ownBlock fid first cap ps ds) {a b:Nat} {ai bi lim:Int} (hai:ai=(a:Int)) (hbi:bi=(b:Int)) (hab:a<=b) (hb:b<=n) (hl:0<=lim/\lim<=64) (hm:b-a<=m),
  Ret Tryz.prog 189 [.slice A n c,.int .i64 ai,.int .i64 bi,.int .i64 lim,.func (.func fid) first cap] w λv w'=>∃ ps',DP w w' base A n c ps ps':=by
 intro m;induction m using Nat.strongRecOn with
 | ind m ih=>
 intro w base A n c fid first cap ps ds hD hn hmx hC a b ai bi lim hai hbi hab hb hl hm
 subst hai;subst hbi;refine enE Tryz.func189 Tryz.ntmps189 ?_;refine ρ ?_;refine Jxd (fun (Z:Nat×Nat) (lt:Int×Bool) (wp:Bool) (q:List Pr)=>[(0,.slice A n c),(1,.int .i64 (Z.1:Int)),(2,.int .i64 (Z.2:Int)),(3,.int .i64 lt.1),(4,.func (.func fid) first cap),(10,.bool lt.2),(11,.bool wp)])
  (λZ lt wp q w'=>DP w w' base A n c ps q/\Z.1<=Z.2/\Z.2<=n/\Z.2-Z.1<=m/\0<=lt.1/\lt.1<=64) (λZ _ _ _=>Z.2-Z.1) (a,b) (lim,true) true ps sB ⟨DP.start hD hn,om,om,om,om,om⟩ ?_
 clear hD hab hb hm;rintro⟨a,b⟩ ⟨lim,wb⟩ C q w1 ⟨H,hab,hb,hm,U,O⟩;simp only at hab hb hm U O;refine ciR (λh=>?_) (λh=>?_)
 .refine clR (Jhq (ai:=(a:Int)) (bi:=(b:Int)) H.d H.l rfl rfl hb om hmx (hC.step H).pack) ?_;rintro v w2 ⟨D,k1,k2,k3,k4⟩;refine ρ ?_;exact Jzp ⟨D,H.ins k1 k2 k4⟩
 have a2:a+12<b:=by have:=oF h;omega
 clear h;refine ciR (λh=>?_) (λh=>?_)
 .refine clR (Qtg (a:=a) (b:=b) H.d H.l hmx (hC.step H) rfl rfl om hb) ?_;rintro v w2 ⟨D,o⟩;refine ρ ?_;exact Jzp ⟨D,H.after o⟩
 have a6:lim≠0:=Xu h;clear h;refine ρ ?_;refine Jjj (fun (lim:Int) (q:List Pr)=>[(0,.slice A n c),(1,.int .i64 (a:Int)),(2,.int .i64 (b:Int)),(3,.int .i64 lim),(4,.func (.func fid) first cap),(10,.bool wb),(11,.bool C),(12,.int .i64 ((b:Int)-(a:Int)))]) (λlim q w'=>DP w w' base A n c ps q/\0<=lim/\lim<=64) ?_ ?_
 .refine ci (λh=>?_) (λh=>?_)
  .refine clR (Xzb (a:=a) (b:=b) H.d H.l hmx (hC.step H) rfl rfl a2 hb) ?_;rintro v w2 ⟨D,o⟩;refine ρ ?_;exact Vv (lim-1) D sB ⟨H.after o,om,om⟩
  refine ρ ?_;exact Vv lim q sB ⟨H,om,om⟩
 clear H U O a6 lim q;rintro lim q w2 ⟨H,U,O⟩;refine clR (Xxl (a:=a) (b:=b) H.d H.l hmx (hC.step H) rfl rfl a2 hb) ?_;rintro v w3 ⟨pv,i,rfl,J,G,o⟩;have u:=H.same o;clear H o;refine ρ ?_;refine Jnw (fun (pv:Nat) (i:Int) (q:List Pr)=>[(0,.slice A n c),(1,.int .i64 (a:Int)),(2,.int .i64 (b:Int)),(3,.int .i64 lim),(4,.func (.func fid) first cap),(10,.bool wb),(11,.bool C),(12,.int .i64 ((b:Int)-(a:Int))),(13,.int .i64 (pv:Int)),(14,.int .i64 i)]) (λpv i q w'=>DP w w' base A n c ps q/\a<=pv/\pv<b) ?_ ?_
 .refine ci (λh=>?_) (λh=>?_)
  .refine clR (Qgv (a:=a) (b:=b) u.d u.l hmx (hC.step u) rfl rfl om hb) ?_;rintro v w2 ⟨D,o⟩;refine ρ ?_;exact Jyt (b-1-(pv-a)) 1 D sO ⟨u.after o,om,om⟩
  refine ρ ?_;exact Jyt pv i q sB ⟨u,J,G⟩
 clear u J G pv i q;rintro pv i q w3 ⟨H,J,G⟩;refine ρ ?_;refine Yw (fun (t:Bool)=>[(0,.slice A n c),(1,.int .i64 (a:Int)),(2,.int .i64 (b:Int)),(3,.int .i64 lim),(4,.func (.func fid) first cap),(10,.bool wb),(11,.bool C),(12,.int .i64 ((b:Int)-(a:Int))),(13,.int .i64 (pv:Int)),(75,.bool t)]) (λt w'=>DP w w' base A n c ps q) ?_ ?_
 .refine ki 69 (λh=>?_) (λh=>?_)
  .refine ρ ?_;refine ki 72 (λh=>?_) (λh=>?_)
   .refine ρ ?_;exact Jf _ sB H
   refine ρ ?_;exact Jf _ sB H
  refine ρ ?_;exact Jf _ sB H
 clear H;rintro t w4 H;refine Zv (fun (q:List Pr)=>[(0,.slice A n c),(1,.int .i64 (a:Int)),(2,.int .i64 (b:Int)),(3,.int .i64 lim),(4,.func (.func fid) first cap),(10,.bool wb),(11,.bool C),(12,.int .i64 ((b:Int)-(a:Int))),(13,.int .i64 (pv:Int))]) (λq w'=>DP w w' base A n c ps q) ?_ ?_
 .refine ci (λh=>?_) (λh=>?_)
  .refine clR (Qlv (a:=a) (b:=b) H.d H.l hmx (hC.step H) rfl rfl om hb) ?_;rintro v w2 ⟨D,o,t2,rfl⟩;refine ciR (λh=>?_) (λh=>?_)
   .refine ρ ?_;exact Jzp ⟨D,H.after o⟩
   refine ρ ?_;exact Jf _ sB (H.after o)
  refine ρ ?_;exact Jf _ sB H
 clear H q;rintro q w5 H;refine ρ ?_;refine Zv (fun (t:Bool)=>[(0,.slice A n c),(1,.int .i64 (a:Int)),(2,.int .i64 (b:Int)),(3,.int .i64 lim),(4,.func (.func fid) first cap),(10,.bool wb),(11,.bool C),(12,.int .i64 ((b:Int)-(a:Int))),(13,.int .i64 (pv:Int)),(97,.bool t)]) (λt w'=>DP w w' base A n c ps q) ?_ ?_
 .skip
  refine dr (scq 17 [13]) kr ?_;have Hd:=H.drew;refine ρd ?_;refine dki 83 (λh=>?_) (λh=>?_)
  .have hT:0<a:=by have:=oT h;omega
   have lx:a-1<n:=om
   have ly:pv<n:=om
   refine Jc (a-1) Hd.rd lx ?_;refine Jz (Hd.cell lx) ?_;refine Jc (pv) Hd.rd ly ?_;refine Jz (Hd.cell ly) ?_;refine ρd ?_;refine Vt (hC.call Hd lx ly) ?_;rintro r a7 ⟨a8,rfl,a1⟩;refine⟨a1,?_⟩;have HT:=Hd.ext a1;refine ρd ?_;refine ρ ?_;exact Jf _ sB HT
  refine ρd ?_;refine ρ ?_;exact Jf false sB Hd
 clear H;rintro t2 w6 H;refine ci (λh=>?_) (λh=>?_)
 .refine clR (Qlx (a:=a) (b:=b) (pv:=pv) H.d H.l hmx (hC.step H) rfl rfl rfl om hb J G) ?_;rintro v w2 ⟨D,o,j,rfl,a5,a4⟩;refine ρ ?_;exact Kd (j,b) (lim,wb) C D sB ⟨H.after o,by simp only;omega,by simp only;omega,by simp only;omega,by simp only;omega,by simp only;omega⟩ (by simp only;omega)
 refine clR (Qlw (a:=a) (b:=b) (pv:=pv) H.d H.l hmx (hC.step H) rfl rfl rfl om hb J G) ?_;rintro v w7 ⟨D,o,j,a3,rfl,a5,a4⟩;have u:=H.after o;clear H o;refine ρ ?_;refine qn (b-a) 8 ?_;refine ciR (λh=>?_) (λh=>?_)
 .refine clR (ih (j-a) om u.d u.l hmx (hC.step u) (a:=a) (b:=j) rfl rfl om om ⟨U,O⟩ (nR _)) ?_;rintro v w8 ⟨q3,H4⟩;refine ρ ?_;exact Kd (j+1,b) (lim,_) a3 q3 sO ⟨u.after H4,by simp only;omega,by simp only;omega,by simp only;omega,by simp only;omega,by simp only;omega⟩ (by simp only;omega)
 refine clR (ih (b-(j+1)) om u.d u.l hmx (hC.step u) (a:=j+1) (b:=b) (ai:=(j:Int)+1) om rfl om om ⟨U,O⟩ (nR _)) ?_;rintro v w8 ⟨q3,H4⟩;refine ρ ?_;exact Kd (a,j) (lim,_) a3 q3 sO ⟨u.after H4,by simp only;omega,by simp only;omega,by simp only;omega,by simp only;omega,by simp only;omega⟩ (by simp only;omega)
end Go.Proofs.YtgobkbeokaaplaaGreatDoor
namespace Go.Wk
open Go.RowKit
variable {cs xs:List Value}{base e m n:Nat}{N N':Nat->Prop}{A:Option Addr}{g:Option Nat}{v x:Value}{a w w':World}
structure GrN(N:Nat->Prop)(w w':World): Prop where
 os:w'.os=w.os
 tape:w'.tape=w.tape
 output:w'.output=w.output
 size:w.heap.size<=w'.heap.size
 block:∀ k,k<w.heap.size->¬ N k->w'.heap[k]?=w.heap[k]?
theorem GrN.refl(N:Nat->Prop)(w:World): GrN N w w:=⟨rfl,rfl,rfl,Nat.le_refl _,λ_ _ _=>rfl⟩
theorem GrN.ext(h:Ext w w'): GrN N w w':=⟨h.os,h.tape,h.output,h.size,λk i _=>h.block k i⟩
theorem GrN.trans{N:Nat->Prop}{a b c:World}(h:GrN N a b)(k:GrN N b c): GrN N a c :=
 ⟨k.os.trans h.os,k.tape.trans h.tape,k.output.trans h.output,Nat.le_trans h.size k.size,λj i hn=>(k.block j (nM i h.size) hn).trans (h.block j i hn)⟩
theorem GrN.by(h:w.grownBy w' g)(hg:∀ k,g=some k->N k): GrN N w w':=⟨h.os,h.tape,h.output,h.size,λk i hn=>h.block k i (λe=>hn (hg k e.symm))⟩
theorem GrN.set{p:Addr}(u:Value)(hp:N p.block): GrN N w (w.setCell p u):=by
 refine⟨rfl,rfl,rfl,by simp[World.setCell],λk i hn=>Below.heap_setCell w p u k ?_⟩;grind
theorem GrN.mono(h:GrN N w w')(hN:∀ k,k<w.heap.size->N k->N' k): GrN N' w w':=⟨h.os,h.tape,h.output,h.size,λk i hn=>h.block k i (λe=>hn (hN k i e))⟩
theorem GrN.old(h:GrN N w w')(hx:Ext a w)(hN:∀ k,N k->a.heap.size<=k): Ext a w' :=
 ⟨h.os.trans hx.os,h.tape.trans hx.tape,h.output.trans hx.output,Nat.le_trans hx.size h.size,λk i=>(h.block k (nM i hx.size) (λe=>by have:=hN k e;omega)).trans (hx.block k i)⟩
theorem GrN.toExt(h:GrN (λ_=>False) w w'): Ext w w':=⟨h.os,h.tape,h.output,h.size,λk i=>h.block k i (λe=>e)⟩
def Off(N:Nat->Prop)(w:World)(Φ:World->Prop): Prop:=∀ w',GrN N w w'->Φ w'
section
variable {N N':Nat->Prop} {w w':World} {Φ Ψ:World->Prop}
theorem Off.here(h:Off N w Φ): Φ w:=h w (GrN.refl N w)
theorem Off.gr(h:Off N w Φ)(hg:GrN N w w'): Off N w' Φ:=λi j=>h i (hg.trans j)
theorem Off.ext(h:Off N w Φ)(hx:Ext w w'): Off N w' Φ:=h.gr (GrN.ext hx)
theorem Off.mono(h:Off N w Φ)(hN:∀ k,k<w.heap.size->N' k->N k): Off N' w Φ:=λw' i=>h w' (i.mono hN)
theorem Off.imp(h:Off N w Φ)(hi:∀ u,Φ u->Ψ u): Off N w Ψ:=λw' i=>hi w' (h w' i)
theorem Off.and(h:Off N w Φ)(k:Off N w Ψ): Off N w (λu=>Φ u/\Ψ u):=λw' i=>⟨h w' i,k w' i⟩
theorem Off.grown(h:Off N w Φ)(hg:w.grownBy w' g)(hN:∀ k,g=some k->N k): Off N w' Φ:=h.gr (GrN.by hg hN)
theorem Off.set(h:Off N w Φ){p:Addr}(u:Value)(hp:N p.block): Off N (w.setCell p u) Φ:=h.gr (GrN.set u hp)
theorem Off.old{a:World}(hΦ:∀ u,Ext a u->Φ u)(hx:Ext a w)(hN:∀ k,N k->a.heap.size<=k): Off N w Φ:=λw' i=>hΦ w' (i.old hx hN)
theorem Vn{sz:Nat}(h:Rd w sz A n cs)(hg:GrN N w w')(hA:0<cs.length->∀ ad,A=some ad->¬ N ad.block): Rd w' sz A n cs :=
 ⟨h.1,λh0=>by
  obtain⟨ad,e,i,C⟩:=h.2 h0;refine⟨ad,e,Nat.lt_of_lt_of_le i hg.size,λj u o=>?_⟩;rw[<-C j u o];exact World.cell?_of_block (by rw[Ur];exact hg.block _ i (hA h0 ad e))⟩
theorem Jwc{sz:Nat}(h:Rd w sz A n cs)(hA:0<cs.length->∀ ad,A=some ad->¬ N ad.block): Off N w (λu=>Rd u sz A n cs):=λw' i=>Vn h i hA
theorem Jb{g:Nat}{t:TypeId}(h:Blk w g t cs)(hg:GrN N w w')(hn:¬ N g): Blk w' g t cs:=(hg.block g h.lt hn).trans h
theorem Jt{sz:Nat}(h:w.ownsRow base e sz v m xs)(hg:GrN N w w')(hn:∀ g,v.ownBlock=some g->¬ N g): w'.ownsRow base e sz v m xs:=by
 rcases h with⟨C,⟨rfl,rfl⟩|⟨g,u,o,rfl,O,G,j,D,J,ht⟩⟩
 .exact⟨C,.inl ⟨rfl,rfl⟩⟩
 refine⟨C,.inr ⟨g,u,o,rfl,O,?_,j,D,J,ht⟩⟩;have i:g<w.heap.size:=by grind
 rw[hg.block g i (hn g rfl)];exact G
theorem Jxt{sz:Nat}(h:w.ownsRow base e sz v m xs)(hn:∀ g,v.ownBlock=some g->¬ N g): Off N w (λu=>u.ownsRow base e sz v m xs):=λw' i=>Jt h i hn
end
theorem Vz{P:Program}{al:AL}{tt:TT}[h:Tab P tt]{fn:Func}{Φ:Value->World->Prop}{c t t1 b:Nat}{k:TK}(hb:Blk w b t cs)(hp:Φ (.tuple #[.agg cs.toArray,x]) w)(hr:fn.results = #[.cell c t,.tmp t1]:=by rfl)(ht:tk tt t=some k:=by rfl)(hk:k.desc=.invalid:=by rfl)(hs:k.size=cs.length:=by rfl)(hc:lk al c=some (.pointer (some ⟨b,0,none⟩)):=by rfl)(h1:lk al t1=some x:=by rfl):
  QX n (Vg P fn Φ) .ret al w :=
 Jzt (rs:=[.cell c t,.tmp t1]) (vs:=[.agg cs.toArray,x]) hr ⟨⟨_,hc,Jjt h.ok ht hk hs (λj u i=>hb.at i)⟩,h1,trivial⟩ rfl hp
end Go.Wk
