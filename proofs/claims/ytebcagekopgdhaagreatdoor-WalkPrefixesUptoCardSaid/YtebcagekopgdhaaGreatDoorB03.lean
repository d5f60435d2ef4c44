/- Part 3. -/
import Derived.Test.YtebcagekopgdhaaGreatDoorB02
import Derived.Lib.Bytealg
import Derived.Laws.StructEq
import Derived.Laws.Cover3
set_option linter.unusedVariables false
set_option maxRecDepth 100000
set_option maxHeartbeats 40000000
namespace Go.Wk
open Go.RowKit
section
variable {P:Program} {n:Nat} {al:AL} {w:World} {Q:Exit->Act->World->Prop} {ops:Array Oper} {rest:List Oper}
variable {d ty:Nat} {op:Op} {pos:String} {aft:Array Edge} {tt:TT}
theorem wext{f:FuncId}{xs:Array Operand}{ats:Array TypeId}{vs:List Value}{v:Value}{w':World}(hc:(callFunc f vs.toArray).run P w=.ok (.value v) w')(k:WL P n ops Q rest ((d,v)::al) w')(hx:evs al xs.toList=some vs:=by rfl)(hd:Nat.blt d n=true:=by rfl): WL P n ops Q (⟨some d,.call { callee:=.value (.func f),args:=xs,argTypes:=ats },ty,pos,aft,none⟩::rest) al w :=
 wop hd (λa o=>by
  have u:xs.map a.eval=vs.toArray:=by rw [<-o.evs hx,<-List.map_toArray,Array.toArray_toList]
  simp [execOp,resolve,u,Act.eval,Deferred.ofValue,invoke,hc]) k
theorem weqs{t t2:TypeId}{x y:Operand}{xs ys:Array Value}{v:Value}(hg:P.eqGuardType P.depth t=false)(hb:(binOp .eql t (.agg xs) (.agg ys)).run P w=.ok v w)(k:WL P n ops Q rest ((d,v)::al) w)(hx:ev al x=some (.agg xs):=by rfl)(hy:ev al y=some (.agg ys):=by rfl)(hd:Nat.blt d n=true:=by rfl): WL P n ops Q (⟨some d,.binOp .eql t x y t2,ty,pos,aft,none⟩::rest) al w :=
 wop hd (λa o=>by
  simp only [execOp,o.ev hx,o.ev hy,Sem.run_bind,run_eqGuard_agg w _ _ _ _ _ _ hg,Result.andThen_ok,hb];rfl) k
end
end Go.Wk
namespace Go.Wk
open Go.RowKit
section
variable {P:Program} {n:Nat} {al:AL} {w:World} {Q:Exit->Act->World->Prop} {ops:Array Oper} {rest:List Oper}
variable {d ty:Nat} {op:Op} {pos:String} {aft:Array Edge} {tt:TT}
theorem Il(w:World)(g:Nat)(cs:Array Value): w.grownBy (w.setRow g cs) (some g) :=
 ⟨rfl,rfl,rfl,by rw [setRow_size];exact Nat.le_refl _,λk _ o=>setRow_other w g k cs (λe=>o (by rw [e]))⟩
theorem alc{t:Nat}{z:Value}{cs:List Value}(hz:Qt P t=some z)(kk:∀ w1 b,Ext w w1->w.heap.size<=b->Blk w1 b t cs->WL P n ops Q rest ((d,.pointer (some ⟨b,0,none⟩))::al) w1)(hv:z.cells=cs.toArray:=by rfl)(hd:Nat.blt d n=true:=by rfl):
  WL P n ops Q (⟨some d,.alloc t,ty,pos,aft,none⟩::rest) al w:=Qkk hz hv hd kk
theorem stb[h:Tab P tt]{x y:Operand}{t b:Nat}{k:TK}{cs cs':List Value}(hb:Blk w b t cs)(kk:∀ w1,Blk w1 b t cs'->w.grownBy w1 (some b)->(∀ a,Ext a w->a.heap.size<=b->Ext a w1)->WL P n ops Q rest al w1)(h1:∀ u∈cs',u.oneCell'=true)(hl:cs.length=cs'.length:=by rfl)(ht:tk tt t=some k:=by rfl)(hk:k.desc=.invalid:=by rfl)(hs:k.size=cs'.length:=by rfl)(hx:ev al x=some (.pointer (some ⟨b,0,none⟩)):=by rfl)(hy:ev al y=some (.agg cs'.toArray):=by rfl):
  WL P n ops Q (⟨none,.store t x y,ty,pos,aft,none⟩::rest) al w:=by
 have J:=Il w b cs'.toArray;refine Kp (λa G=>?_) (kk (w.setRow b cs'.toArray) (setRow_heap w b _ _ _ _ hb) J (λa hx G=>Qv hx J (λk hk=>by injection hk with hk;omega)));have C:=Ze w (Jjp h.ok ht hk w).2;have o:=run_storeCells_from (P:=P) b t cs' 0 cs.toArray w hb (by simpa using hl.symm) h1;simp only [List.take_zero,List.nil_append]at o;simp [execOp,G.ev hx,G.ev hy,Instr.storeAt,Instr.sureAddr,storeVar,Value.cells,C,hs,o]
theorem ldW[h:Tab P tt]{x:Operand}{t tb b:Nat}{k:TK}{cs:List Value}(hb:Blk w b tb cs)(kk:WL P n ops Q rest ((d,.agg cs.toArray)::al) w)(ht:tk tt t=some k:=by rfl)(hk:k.desc=.invalid:=by rfl)(hl:k.size=cs.length:=by rfl)(hx:ev al x=some (.pointer (some ⟨b,0,none⟩)):=by rfl)(hd:Nat.blt d n=true:=by rfl): WL P n ops Q (⟨some d,.load t x,ty,pos,aft,none⟩::rest) al w:=lds (λj u o=>hb.at o) kk ht hk hl hx hd
theorem stW[h:Tab P tt]{x y:Operand}{t b:Nat}{k:TK}{cs cs':List Value}(hb:Blk w b t cs)(kk:∀ w1,Blk w1 b t cs'->w.grownBy w1 (some b)->(∀ a,Ext a w->a.heap.size<=b->Ext a w1)->WL P n ops Q rest al w1)(hy:ev al y=some (.agg cs'.toArray):=by rfl)(h1:cs'.all Value.oneCell'=true:=by rfl)(hl:cs.length=cs'.length:=by rfl)(ht:tk tt t=some k:=by rfl)(hk:k.desc=.invalid:=by rfl)(hs:k.size=cs'.length:=by rfl)(hx:ev al x=some (.pointer (some ⟨b,0,none⟩)):=by rfl):
  WL P n ops Q (⟨none,.store t x y,ty,pos,aft,none⟩::rest) al w:=stb hb kk (λu o=>List.all_eq_true.1 h1 u o) hl ht hk hs hx hy
theorem Jtb[h:Tab P tt]{fn:Func}{Φ:Value->World->Prop}{c t t1 t2 b:Nat}{k:TK}{cs:List Value}{x y:Value}(hb:Blk w b t cs)(hp:Φ (.tuple #[.agg cs.toArray,x,y]) w)(hr:fn.results = #[.cell c t,.tmp t1,.tmp t2]:=by rfl)(ht:tk tt t=some k:=by rfl)(hk:k.desc=.invalid:=by rfl)(hs:k.size=cs.length:=by rfl)(hc:lk al c=some (.pointer (some ⟨b,0,none⟩)):=by rfl)(h1:lk al t1=some x:=by rfl)(h2:lk al t2=some y:=by rfl):
  QX n (Vh P fn Φ) .ret al w :=
 Jqz (rs:=[.cell c t,.tmp t1,.tmp t2]) (vs:=[.agg cs.toArray,x,y]) hr ⟨⟨_,hc,Iz h.ok ht hk hs (λj u o=>hb.at o)⟩,h1,h2,trivial⟩ rfl hp
theorem Jqv[h:Tab P tt]{fn:Func}{Φ:Value->World->Prop}{c t b:Nat}{k:TK}{cs:List Value}(hb:Blk w b t cs)(hp:Φ (.agg cs.toArray) w)(hr:fn.results = #[.cell c t]:=by rfl)(ht:tk tt t=some k:=by rfl)(hk:k.desc=.invalid:=by rfl)(hs:k.size=cs.length:=by rfl)(hc:lk al c=some (.pointer (some ⟨b,0,none⟩)):=by rfl):
  QX n (Vh P fn Φ) .ret al w :=
 Jqz (rs:=[.cell c t]) (vs:=[.agg cs.toArray]) hr ⟨⟨_,hc,Iz h.ok ht hk hs (λj u o=>hb.at o)⟩,trivial⟩ rfl hp
end
end Go.Wk
namespace Go.Wk
open Go.RowKit
section
variable {P:Program} {ops:Array Oper} {Q:Exit->Act->World->Prop} {T:Nat->Bool}
def Jjd(P:Program)(ops:Array Oper)(Q:Exit->Act->World->Prop)(T:Nat->Bool): Nat->Array Bool->Act->World->Prop
 | 0,listed,a,w=>Region.ready .any ops listed=[]/\Q .normal a w
 | fuel+1,listed,a,w=>
  ((∀ i,unl ops listed i->T i=true)/\wpAny P .any ops Q (fuel+1) listed a w) ∨
  ((Region.ready .any ops listed=[]->Q .normal a w) /\
   ∀ i∈Region.ready .any ops listed,wpOp P ops (QF Q) i (λa' w'=>True/\Jjd P ops Q T fuel (listed.setIfInBounds i true) a' w') a w)
theorem Jgz: ∀ (fuel:Nat) (listed:Array Bool) (a:Act) (w:World),Jjd P ops Q T fuel listed a w->wpAny P .any ops Q fuel listed a w
 | 0,_,_,_,h=>h
 | fuel+1,_,_,_,h=>by
  rcases h with h|h
  .exact h.2
  .exact ⟨h.1,λi hi=>wpOp_mono (λa' w' h'=>Jgz fuel _ a' w' h'.2) (Jjc (h.2 i hi))⟩
theorem Qzn(hT:Gk ops T=true){i:Nat}{oi:Oper}{v:Value}(hi:ops[i]?=some oi)(hn:T i=false)(hsel:∀ (j:Nat) (o:Oper) cs b,ops[j]?=some o->o.op≠.select cs b):
  ∀ (fuel:Nat) (listed:Array Bool) (a:Act) (w:World),
   (∀ j oj,ops[j]?=some oj->j≠i->listed.getD j true=false->(∀ e∈oj.after,Region.binds .any e=true->e.on≠i)->oi.apart ops oj=true) ->
   i∈Region.ready .any ops listed->YieldsIf P ops (λ_=>True) oi v a ->
   Jjd P ops Q T fuel (listed.setIfInBounds i true) (a.put oi.dst v) w->Jjd P ops Q T (fuel+1) listed a w:=by
 have a8:i<ops.size:=(Array.getElem?_eq_some_iff.1 hi).1;intro fuel;induction fuel with
 | zero=>
  intro listed a w _ O hy H;refine .inr ⟨λh=>(by rw [h]at O;cases O),λj hj=>?_⟩;by_cases hji:j=i
  .subst hji;exact hy.wpOp hi trivial ⟨trivial,H⟩
  .have:=ready_mono hj hji;rw [H.1]at this;cases this
 | succ fuel ih=>
  intro listed a w C O hy H;have a4:unl ops listed i:=⟨a8,(mem_ready.1 O).1⟩;refine .inr ⟨λh=>(by rw [h]at O;cases O),λj hj=>?_⟩;by_cases hji:j=i
  .subst hji;exact hy.wpOp hi trivial ⟨trivial,H⟩
  .obtain ⟨u,oj,G,a2⟩:=mem_ready.1 hj;have a7:T j=false:=Jnl hT a4 hn hj;rcases H with H|H
   .have:=H.1 j ⟨(Array.getElem?_eq_some_iff.1 G).1,by rw [getD_set_ne true (Ne.symm hji)];exact u⟩;rw [a7]at this;cases this
   .have U:=H.2 j (ready_mono hj hji);have a1:∀ e∈oj.after,Region.binds .any e=true->e.on≠i:=λe he hb a9=>by
     have U:=a2 e he hb;have h0:=(mem_ready.1 O).1;rw [a9]at U;rcases Nat.lt_or_ge i listed.size with h'|h'
     .simp [h']at h0 U;rw [h0]at U;cases U
     .simp [Array.getElem?_eq_none h']at U
    have h2:=wpOp_putIf G (C j oj G hji u a1) (λcs b=>hsel i oi cs b hi) (λcs b=>hsel j oj cs b G) (λc a w h=>h) hy U;have J:∀ k ok,ops[k]?=some ok->k≠i->(listed.setIfInBounds j true).getD k true=false ->
      (∀ e∈ok.after,Region.binds .any e=true->e.on≠i)->oi.apart ops ok=true:=λk ok hk a6 Z a5=>by
     refine C k ok hk a6 ?_ a5;by_cases hjk:j=k
     .subst hjk;exact u
     .rw [getD_set_ne true hjk]at Z;exact Z
    refine wpOp_mono (λa' w' h3=>⟨h3.2.1,ih (listed.setIfInBounds j true) a' w' J (ready_mono O (Ne.symm hji)) ?_ ?_⟩) h2
    .exact h3.1.imp (λ⟨h4,h5⟩=>⟨h4,λa3 hx=>h5 a3 trivial⟩) id
    .rw [Array.setIfInBounds_comm _ _ hji];exact h3.2.2
def wk1B(P:Program)(ops:Array Oper)(Q:Exit->Act->World->Prop)(k:Nat)(o:Oper)(K:Act->World->Prop)(a:Act)(w:World): Prop :=
 match k with
 | 0=>∃ v,YieldsIf P ops (λ_=>True) o v a/\K (a.put o.dst v) w
 | 1=>if Region.wanted o (yielded ops a.tmps) then o.wp P a w (λa' w'=>True/\K a' w') (QF Q) else K (a.put o.dst undef) w
 | _=>if Region.wanted o (yielded ops a.tmps) then o.wp P a w K (QF Q) else K (a.put o.dst undef) w
def Uh(P:Program)(ops:Array Oper)(Q:Exit->Act->World->Prop): List (Nat×Oper)->Act->World->Prop
 | [],a,w=>Q .normal a w
 | p::r,a,w=>wk1B P ops Q p.1 p.2 (Uh P ops Q r) a w
theorem Jgw: ∀ (s:List (Nat×Nat)) (listed:Array Bool) (a:Act) (w:World),(∀ p∈s,p.1=2)->(∀ p∈s,p.2<ops.size)->Qm ops s listed=true->Uh P ops Q (Ja ops.toList s) a w->wpAny P .any ops Q s.length listed a w
 | [],listed,a,w,_,_,hB,h=>⟨by simpa [Qm] using hB,h⟩
 | (k,i)::r,listed,a,w,hk,hlt,hB,h=>by
  obtain rfl:k=2:=hk _ (mC ..);have hi:i<ops.size:=hlt _ (mC ..);simp only [Qm,Bool.and_eq_true,beq_iff_eq]at hB;obtain ⟨hr,hB'⟩:=hB;have ho:ops[i]?=some ops[i]:=Array.getElem?_eq_getElem hi;have hn:nth ops.toList i=some ops[i]:=by rw [Xq];simp [hi]
  simp only [Ja,hn,Uh,wk1B]at h;refine ⟨λh0=>(by rw [hr]at h0;cases h0),λj hj=>?_⟩;rw [hr]at hj;obtain rfl:j=i:=by simpa using hj
  have hrec:∀ a w,Uh P ops Q (Ja ops.toList r) a w->wpAny P .any ops Q r.length (listed.setIfInBounds j true) a w:=λa w h'=>
   Jgw r _ a w (λp hp=>hk p (List.mem_cons_of_mem _ hp)) (λp hp=>hlt p (List.mem_cons_of_mem _ hp)) hB' h'
  refine wpOp_mono hrec (Jjc ?_);unfold wpOp;simp only [ho];split
  .rename_i hw;simp only [hw,if_true]at h;exact .inl h
  .rename_i hw;simp only [hw]at h;exact h
theorem Jhd(hsel:Region.noSelect ops=true)(hT:Gk ops T=true): ∀ (s:List (Nat×Nat)) (listed:Array Bool) (a:Act) (w:World),Jqq s=true->(∀ p∈s,p.2<ops.size)->(∀ p∈s,(p.1 == 2)=T p.2) ->
  (∀ i,unl ops listed i->∃ k,(k,i)∈s)->Qm ops s listed=true->Uh P ops Q (Ja ops.toList s) a w->Jjd P ops Q T s.length listed a w
 | [],listed,a,w,_,_,_,_,hB,h=>⟨by simpa [Qm] using hB,h⟩
 | (k,i)::r,listed,a,w,hk,hlt,hKT,hall,hB,h=>by
  have hi:i<ops.size:=hlt _ (mC ..);have ho:ops[i]?=some ops[i]:=Array.getElem?_eq_getElem hi;have hn:nth ops.toList i=some ops[i]:=by rw [Xq];simp [hi]
  simp only [Jqq,Bool.and_eq_true]at hk;have hTi:=hKT _ (mC ..);simp only at hTi;have hall':∀ j,unl ops (listed.setIfInBounds i true) j->∃ k,(k,j)∈r:=λj hj=>by
   by_cases hji:j=i
   .subst hji;have h2:=hj.2;rcases Nat.lt_or_ge j listed.size with h'|h'
    .simp [h']at h2
    .simp at h2
   .obtain ⟨k',hk'⟩:=hall j ⟨hj.1,by rw [<-getD_set_ne true (Ne.symm hji)];exact hj.2⟩;rcases List.mem_cons.1 hk' with h'|h'
    .injection h' with _ h';exact absurd h' hji
    .exact ⟨k',h'⟩
  have hrec:Qm ops r (listed.setIfInBounds i true)=true->∀ a w,Uh P ops Q (Ja ops.toList r) a w->Jjd P ops Q T r.length (listed.setIfInBounds i true) a w:=λhB' a w h'=>
   Jhd hsel hT r _ a w hk.2 (λp hp=>hlt p (List.mem_cons_of_mem _ hp)) (λp hp=>hKT p (List.mem_cons_of_mem _ hp)) hall' hB' h'
  match k,hTi,hk,hB,h with
  | 0,hTi,hk,hB,h=>
   simp only [Qm,Bool.and_eq_true]at hB;obtain ⟨⟨hr,hf⟩,hB'⟩:=hB;simp only [Ja,hn,Uh,wk1B]at h;obtain ⟨v,hy,h⟩:=h;exact Qzn hT ho (by rw [<-hTi];rfl) (Region.noSelect_spec hsel) r.length listed a w (Region.free_spec ho hf) (by simpa using hr) hy (hrec hB' _ _ h)
  | 1,hTi,hk,hB,h=>
   simp only [Qm,Bool.and_eq_true,beq_iff_eq]at hB;obtain ⟨hr,hB'⟩:=hB;simp only [Ja,hn,Uh,wk1B]at h;refine .inr ⟨λh0=>(by rw [hr]at h0;cases h0),λj hj=>?_⟩;rw [hr]at hj;obtain rfl:j=i:=by simpa using hj
   unfold wpOp;simp only [ho];split
   .rename_i hw;simp only [hw,if_true]at h;exact .inl (Oper.wp_mono (λa' w' h'=>⟨h'.1,hrec hB' _ _ h'.2⟩) h)
   .rename_i hw;simp only [hw]at h;exact ⟨trivial,hrec hB' _ _ h⟩
  | 2,hTi,hk,hB,h=>
   refine .inl ⟨λj hj=>?_,Jgw ((2,i)::r) listed a w ?_ hlt hB h⟩
   .obtain ⟨k',hk'⟩:=hall j hj;have h1:=hKT _ hk';simp only at h1;rw [<-h1];rcases List.mem_cons.1 hk' with h'|h'
    .injection h' with h' _;rw [h'];rfl
    .have:=hk.1.2;simp only [bne_self_eq_false,Bool.false_or,List.all_eq_true]at this;exact this _ h'
   .intro p hp;rcases List.mem_cons.1 hp with h'|h'
    .rw [h']
    .have:=hk.1.2;simp only [bne_self_eq_false,Bool.false_or,List.all_eq_true]at this;simpa using this _ h'
  | k+3,hTi,hk,hB,h=>
   have:=hk.1.1;simp at this
end
section
variable {P:Program} {n:Nat} {al al':AL} {w:World} {Q:Exit->Act->World->Prop} {ops:Array Oper} {rest:List (Nat×Oper)}
def WDB(P:Program)(n:Nat)(ops:Array Oper)(Q:Exit->Act->World->Prop)(l:List (Nat×Oper))(al:AL)(w:World): Prop:=∀ a,Fr n al a->Uh P ops Q l a w
theorem wdrawB{id:Nat}{l:List Oper}(s:List (Nat×Nat))(hm:P.follows .mixedOrders=true)(hB:Jxv l.toArray s=true)(h:WDB P n l.toArray Q (Ja l s) al w.drew): WC P n (.region id l.toArray true) Q al w:=by
 intro a G;simp only [Jxv,Bool.and_eq_true,beq_iff_eq,List.all_eq_true,List.any_eq_true,List.mem_range]at hB;obtain ⟨⟨⟨⟨⟨⟨⟨h1,u⟩,h3⟩,h4⟩,Z⟩,U⟩,O⟩,J⟩:=hB;refine wp_region_any hm ?_;rw [<-u];refine Jgz (T:=Ul s) _ _ _ _ (Jhd h1 h3 s _ a _ h4 (λp o=>?_) (λp o=>?_) (λi hi=>?_) (by rw [u];exact U) ?_)
 .have:=O p o;have h':p.2+1<=l.toArray.size:=by simpa [Nat.blt] using this
  omega
 .simpa using Z p o
 .obtain ⟨p,o,C⟩:=J i hi.1;exact ⟨p.1,by rw [<-C];exact o⟩
 .have:=h a G;simpa using this
variable {d ty:Nat} {op:Op} {pos:String} {aft:Array Edge}
def YldB(P:Program)(n:Nat)(al:AL)(w:World)(o:Oper)(v:Value): Prop:=∀ w',True->∀ a,Fr n al a->(execOp a.eval o).run P w'=.ok (.value v) w'
theorem dyB{v:Value}(hy:YldB P n al w ⟨some d,op,ty,pos,aft,none⟩ v)(hd:Nat.blt d n=true)(k:WDB P n ops Q rest ((d,v)::al) w): WDB P n ops Q ((0,⟨some d,op,ty,pos,aft,none⟩)::rest) al w:=λa u=>by
 have o:d<n:=by (have:d+1<=n:=by simpa [Nat.blt] using hd);(omega)
 exact ⟨v,.inl ⟨rfl,λw' C=>hy w' C a u⟩,k _ (u.put o v)⟩
def toB(P:Program)(ops:Array Oper)(Q:Exit->Act->World->Prop)(rest:List (Nat×Oper)): Exit->Act->World->Prop
 | .normal,a,w=>Uh P ops Q rest a w
 | _,_,_=>False
variable {d ty:Nat} {op:Op} {pos:String} {aft:Array Edge} {tt:TT} {drest:List (Nat×Oper)}
end
end Go.Wk
namespace Go.Wk
open Go.RowKit
section
variable {P:Program} {n:Nat} {al al':AL} {w:World} {Q:Exit->Act->World->Prop} {ops:Array Oper} {drest:List (Nat×Oper)} {rest:List Oper}
variable {d ty:Nat} {op:Op} {pos:String} {aft:Array Edge} {tt:TT}
def toD(P:Program)(ops:Array Oper)(Q:Exit->Act->World->Prop)(rest:List (Nat×Oper)): Exit->Act->World->Prop
 | .normal,a,w=>Qc P ops Q rest a w
 | _,_,_=>False
theorem Ql(h:WD P n ops Q drest al w): QX n (toD P ops Q drest) .normal al w:=h
theorem Jo{o:Oper}(h:WL P n ops (toD P ops Q drest) [o] al w): WD P n ops Q ((2,o)::drest) al w:=λa J=>by
 have u:=h a J;unfold wpList at u;unfold Qc wk1;simp only;have C:¬ LetsOut (toD P ops Q drest):=by rintro ⟨a,w,h⟩;exact h
 split
 .rename_i hw;simp only [hw,if_true]at u;rcases u with u|⟨_,u⟩
  .refine Oper.wp_mono (K:=Qc P ops Q drest) (λU w' O=>O) ?_;unfold Oper.wp at u ⊢;exact Yq (Q:=toD P ops Q drest) (λc a w G=>G.elim) (λG=>absurd G C) u
  .exact absurd u C
 .rename_i hw;simp only [hw]at u;exact u
theorem Za{f:FuncId}{x:Operand}{first captured:Array Value}{xs:Array Operand}{ats:Array TypeId}{vs us:List Value}{Φ:Value->World->Prop}(hc:Ret P f us w Φ)(k:∀ v w',Φ v w'->Ext w w'/\WD P n ops Q drest ((d,v)::al) w')(hf:ev al x=some (.func (.func f) first captured):=by rfl)(hx:evs al xs.toList=some vs:=by rfl)(hu:first.toList++vs++captured.toList=us:=by rfl)(hd:Nat.blt d n=true:=by rfl):
  WD P n ops Q ((1,⟨some d,.call { callee:=.value x,args:=xs,argTypes:=ats },ty,pos,aft,none⟩)::drest) al w:=λa u=>by
 subst hu;have o:d<n:=by (have:d+1<=n:=by simpa [Nat.blt] using hd);(omega)
 have J:xs.map a.eval=vs.toArray:=by rw [<-u.evs hx,<-List.map_toArray,Array.toArray_toList]
 have G:(execOp a.eval ⟨some d,.call { callee:=.value x,args:=xs,argTypes:=ats },ty,pos,aft,none⟩).run P w=.ok (.enter f (first.toList++vs++captured.toList).toArray) w:=by
  have e:(first.toList++vs++captured.toList).toArray=first++vs.toArray++captured:=by apply Array.ext';simp
  rw [e];simp [execOp,resolve,J,u.ev hf,Deferred.ofValue,invoke,Jwf hc.ok]
 unfold Qc wk1;have O:Region.wanted (⟨some d,.call { callee:=.value x,args:=xs,argTypes:=ats },ty,pos,aft,none⟩:Oper) (yielded ops a.tmps)=true:=rfl;simp only [O,if_true];exact Jvp G hc λv w' C=>⟨(k v w' C).1,(k v w' C).2 _ (u.put o v)⟩
theorem clv{f:FuncId}{x:Operand}{first captured:Array Value}{xs:Array Operand}{ats:Array TypeId}{vs us:List Value}{Φ:Value->World->Prop}(hc:Ret P f us w Φ)(k:∀ v w',Φ v w'->WL P n ops Q rest ((d,v)::al) w')(hf:ev al x=some (.func (.func f) first captured):=by rfl)(hx:evs al xs.toList=some vs:=by rfl)(hu:first.toList++vs++captured.toList=us:=by rfl)(hd:Nat.blt d n=true:=by rfl):
  WL P n ops Q (⟨some d,.call { callee:=.value x,args:=xs,argTypes:=ats },ty,pos,aft,none⟩::rest) al w:=by
 subst hu;exact Qkc hf hx hd hc k
theorem Jzt{fn:Func}{Φ:Value->World->Prop}(h:Φ (.tuple #[]) w)(hr:fn.results = #[]:=by rfl): QX n (Vh P fn Φ) .ret al w :=
 Jqz (rs:=[]) (vs:=[]) hr trivial rfl h
theorem Ue{fn:Func}{Φ:Value->World->Prop}(h:Φ (.tuple #[]) w)(hr:fn.results = #[]:=by rfl): QX n (Vh P fn Φ) .normal al w:=λa o=>
 Jzt (n:=n) (al:=al) h hr a o
end
end Go.Wk
namespace Go.Wk
open Go.RowKit
section
variable {P:Program} {ops:Array Oper} {Q:Exit->Act->World->Prop} {T:Nat->Bool}
def Vk(P:Program)(ops:Array Oper)(Q:Exit->Act->World->Prop)(T:Nat->Bool): Nat->Array Bool->Act->World->Prop
 | 0,listed,a,w=>Region.ready .any ops listed=[]/\Q .normal a w
 | fuel+1,listed,a,w=>
  (Region.ready .any ops listed=[]->Q .normal a w) /\
   ∀ i∈Region.ready .any ops listed,wpOp P ops (QF Q) i (λa' w'=>(T i=false->Ext w w')/\Vk P ops Q T fuel (listed.setIfInBounds i true) a' w') a w
theorem Jys: ∀ (fuel:Nat) (listed:Array Bool) (a:Act) (w:World),Vk P ops Q T fuel listed a w->wpAny P .any ops Q fuel listed a w
 | 0,_,_,_,h=>h
 | fuel+1,_,_,_,h=>⟨h.1,λi hi=>wpOp_mono (λa' w' h'=>Jys fuel _ a' w' h'.2) (Jjc (h.2 i hi))⟩
def Up(ops:Array Oper): Nat->Nat->Nat->Bool
 | 0,_,_=>false
 | f+1,t,r=>match ops[t]? with
  | none=>false
  | some o=>(o.after.any λe=>Region.binds .any e && e.on == r) || o.after.any λe=>Region.binds .any e && Up ops f e.on r
def Closed(ops:Array Oper)(listed:Array Bool): Prop:=∀ k o,ops[k]?=some o->listed.getD k false=true->∀ e∈o.after,Region.binds .any e=true->listed.getD e.on false=true
theorem Jwk{listed:Array Bool}(hc:Closed ops listed): ∀ (f t r:Nat) (o:Oper),ops[t]?=some o->(∀ e∈o.after,Region.binds .any e=true->listed.getD e.on false=true)->Up ops f t r=true->listed.getD r false=true
 | 0,_,_,_,_,_,h=>by cases h
 | f+1,t,r,o,ho,hl,h=>by
  simp only [Up,ho,Bool.or_eq_true,Array.any_eq_true',Bool.and_eq_true,beq_iff_eq]at h;rcases h with ⟨e,he,hb,hr⟩|⟨e,he,hb,hr⟩
  .have:=hl e he hb;rw [hr]at this;exact this
  .have h1:=hl e he hb;cases ho':ops[e.on]? with
   | none=>
    cases f with
    | zero=>cases hr
    | succ f=>simp [Up,ho']at hr
   | some o'=>exact Jwk hc f e.on r o' ho' (hc e.on o' ho' h1) hr
theorem Jwj{listed:Array Bool}{j:Nat}{oj:Oper}(hoj:ops[j]?=some oj)(hj:j∈Region.ready .any ops listed): ∀ e∈oj.after,Region.binds .any e=true->listed.getD e.on false=true:=by
 obtain ⟨_,J,o,u⟩:=mem_ready.1 hj;rw [hoj]at o;injection o with o
 subst o;intro e C G;have:=u e C G;rcases Nat.lt_or_ge e.on listed.size with h'|h'
 .simp [h']at this ⊢;exact this
 .simp [Array.getElem?_eq_none h']at this
theorem Closed.step{listed:Array Bool}(hc:Closed ops listed){i:Nat}(hi:i∈Region.ready .any ops listed): Closed ops (listed.setIfInBounds i true):=by
 have keep:∀ k,listed.getD k false=true->(listed.setIfInBounds i true).getD k false=true:=λk u=>by
  by_cases hik:i=k
  .subst hik;have C:i<listed.size:=by
    rcases Nat.lt_or_ge i listed.size with h'|h'
    .exact h'
    .simp [Array.getElem?_eq_none h']at u
   simp [C]
  .simpa [Array.getElem?_setIfInBounds_ne hik] using u
 intro k o G u e J O;by_cases hik:i=k
 .subst hik;exact keep _ (Jwj G hi e J O)
 .have:listed.getD k false=true:=by simpa [Array.getElem?_setIfInBounds_ne hik] using u
  exact keep _ (hc k o G this e J O)
theorem Jkt(S:World->World->Prop)(hS0:∀ w,S w w)(hSt:∀ {a b c},S a b->S b c->S a c){i:Nat}{oi:Oper}{v:Value}(hi:ops[i]?=some oi)(hsel:∀ (j:Nat) (o:Oper) cs b,ops[j]?=some o->o.op≠.select cs b)(hSx:∀ listed j,Closed ops listed->i∈Region.ready .any ops listed->j∈Region.ready .any ops listed->∀ w w',(T j=false->Ext w w')->S w w'):
  ∀ (fuel:Nat) (listed:Array Bool) (a:Act) (w:World),Closed ops listed ->
   (∀ j oj,ops[j]?=some oj->j≠i->listed.getD j true=false->(∀ e∈oj.after,Region.binds .any e=true->e.on≠i)->oi.apart ops oj=true) ->
   i∈Region.ready .any ops listed->YieldsIf P ops (S w) oi v a ->
   Vk P ops Q T fuel (listed.setIfInBounds i true) (a.put oi.dst v) w->Vk P ops Q T (fuel+1) listed a w:=by
 intro fuel;induction fuel with
 | zero=>
  intro listed a w U _ G hy H;refine ⟨λh=>(by rw [h]at G;cases G),λj hj=>?_⟩;by_cases hji:j=i
  .subst hji;exact hy.wpOp hi (hS0 w) ⟨λ_=>Ext.refl w,H⟩
  .have:=ready_mono hj hji;rw [H.1]at this;cases this
 | succ fuel ih=>
  intro listed a w U u G hy H;refine ⟨λh=>(by rw [h]at G;cases G),λj hj=>?_⟩;by_cases hji:j=i
  .subst hji;exact hy.wpOp hi (hS0 w) ⟨λ_=>Ext.refl w,H⟩
  .obtain ⟨J,oj,O,a3⟩:=mem_ready.1 hj;have Z:=H.2 j (ready_mono hj hji);have a2:∀ e∈oj.after,Region.binds .any e=true->e.on≠i:=λe he hb a7=>by
    have Z:=a3 e he hb;have h0:=(mem_ready.1 G).1;rw [a7]at Z;rcases Nat.lt_or_ge i listed.size with h'|h'
    .simp [h']at h0 Z;rw [h0]at Z;cases Z
    .simp [Array.getElem?_eq_none h']at Z
   have h2:=wpOp_putIf O (u j oj O hji J a2) (λcs b=>hsel i oi cs b hi) (λcs b=>hsel j oj cs b O) (λc a w h=>h) hy Z;have C:∀ k ok,ops[k]?=some ok->k≠i->(listed.setIfInBounds j true).getD k true=false ->
     (∀ e∈ok.after,Region.binds .any e=true->e.on≠i)->oi.apart ops ok=true:=λk ok hk a6 a1 a5=>by
    refine u k ok hk a6 ?_ a5;by_cases hjk:j=k
    .subst hjk;exact J
    .rw [getD_set_ne true hjk]at a1;exact a1
   refine wpOp_mono (λa' w' h3=>⟨h3.2.1,ih (listed.setIfInBounds j true) a' w' (U.step hj) C (ready_mono G (Ne.symm hji)) ?_ ?_⟩) h2
   .exact h3.1.imp (λ⟨h4,h5⟩=>⟨h4,λa4 hx=>h5 a4 (hSt (hSx listed j U G hj w w' h3.2.1) hx)⟩) id
   .rw [Array.setIfInBounds_comm _ _ hji];exact h3.2.2
theorem Jhh(hsel:Region.noSelect ops=true)(F:Nat): ∀ (s:List (Nat×Nat)) (listed:Array Bool) (a:Act) (w:World),Closed ops listed->(∀ p∈s,Nat.ble p.1 2=true)->(∀ p∈s,p.2<ops.size)->(∀ p∈s,(p.1 == 2)=T p.2) ->
  (∀ t,T t=true->t<ops.size->∀ p∈s,p.1=0->Up ops F t p.2=true)->Qm ops s listed=true->Qc P ops Q (Ja ops.toList s) a w->Vk P ops Q T s.length listed a w
 | [],listed,a,w,_,_,_,_,_,hB,h=>⟨by simpa [Qm] using hB,h⟩
 | (k,i)::r,listed,a,w,hcl,hk,hlt,hKT,hR,hB,h=>by
  have hi:i<ops.size:=hlt _ (mC ..);have ho:ops[i]?=some ops[i]:=Array.getElem?_eq_getElem hi;have hn:nth ops.toList i=some ops[i]:=by rw [Xq];simp [hi]
  have hTi:=hKT _ (mC ..);have hk0:=hk _ (mC ..);simp only at hTi hk0;have hrec:Closed ops (listed.setIfInBounds i true)->Qm ops r (listed.setIfInBounds i true)=true->∀ a w,Qc P ops Q (Ja ops.toList r) a w->Vk P ops Q T r.length (listed.setIfInBounds i true) a w:=λhc' hB' a w h'=>
   Jhh hsel F r _ a w hc' (λp hp=>hk p (List.mem_cons_of_mem _ hp)) (λp hp=>hlt p (List.mem_cons_of_mem _ hp)) (λp hp=>hKT p (List.mem_cons_of_mem _ hp)) (λt ht htl p hp=>hR t ht htl p (List.mem_cons_of_mem _ hp)) hB' h'
  have one:Qm ops r (listed.setIfInBounds i true)=true->Region.ready .any ops listed=[i]->(T i=false->if Region.wanted ops[i] (yielded ops a.tmps) then ops[i].wp P a w (λa' w'=>Ext w w'/\Qc P ops Q (Ja ops.toList r) a' w') (QF Q) else Qc P ops Q (Ja ops.toList r) (a.put ops[i].dst undef) w) ->
    (T i=true->if Region.wanted ops[i] (yielded ops a.tmps) then ops[i].wp P a w (Qc P ops Q (Ja ops.toList r)) (QF Q) else Qc P ops Q (Ja ops.toList r) (a.put ops[i].dst undef) w)->Vk P ops Q T (r.length+1) listed a w:=λhB' hr hf ht=>by
   have hcl':Closed ops (listed.setIfInBounds i true):=hcl.step (by rw [hr];exact List.mem_singleton.2 rfl);refine ⟨λh0=>(by rw [hr]at h0;cases h0),λj hj=>?_⟩;rw [hr]at hj;obtain rfl:j=i:=by simpa using hj
   unfold wpOp;simp only [ho];cases hT:T j with
   | false=>
    have h:=hf hT;split
    .rename_i hw;simp only [hw,if_true]at h;exact .inl (Oper.wp_mono (λa' w' h'=>⟨λ_=>h'.1,hrec hcl' hB' _ _ h'.2⟩) h)
    .rename_i hw;simp only [hw]at h;exact ⟨λ_=>Ext.refl w,hrec hcl' hB' _ _ h⟩
   | true=>
    have h:=ht hT;split
    .rename_i hw;simp only [hw,if_true]at h;exact .inl (Oper.wp_mono (λa' w' h'=>⟨λh0=>(by cases h0),hrec hcl' hB' _ _ h'⟩) h)
    .rename_i hw;simp only [hw]at h;exact ⟨λ_=>Ext.refl w,hrec hcl' hB' _ _ h⟩
  match k,hTi,hk0,hR,hB,h with
  | 0,hTi,_,hR,hB,h=>
   simp only [Qm,Bool.and_eq_true]at hB;obtain ⟨⟨hr,hf⟩,hB'⟩:=hB;have hr':i∈Region.ready .any ops listed:=by simpa using hr
   simp only [Ja,hn,Qc,wk1]at h;obtain ⟨v,hy,h⟩:=h;refine Jkt Ext Ext.refl Ext.trans ho (Region.noSelect_spec hsel) ?_ r.length listed a w hcl (Region.free_spec ho hf) hr' hy (hrec (hcl.step hr') hB' _ _ h);intro listed' j hcl' hri hrj w w' hx;cases hT:T j with
   | false=>exact hx hT
   | true=>
    obtain ⟨_,oj,hoj,_⟩:=mem_ready.1 hrj;have h1:=Jwk hcl' F j i oj hoj (Jwj hoj hrj) (hR j hT (Array.getElem?_eq_some_iff.1 hoj).1 _ (mC ..) rfl);have h0:=(mem_ready.1 hri).1;rcases Nat.lt_or_ge i listed'.size with h'|h'
    .simp [h']at h0 h1;rw [h0]at h1;cases h1
    .simp [Array.getElem?_eq_none h']at h1
  | 1,hTi,_,hR,hB,h=>
   simp only [Qm,Bool.and_eq_true,beq_iff_eq]at hB;simp only [Ja,hn,Qc,wk1]at h;refine one hB.2 hB.1 (λ_=>h) (λht=>?_);rw [<-hTi]at ht;cases ht
  | 2,hTi,_,hR,hB,h=>
   simp only [Qm,Bool.and_eq_true,beq_iff_eq]at hB;simp only [Ja,hn,Qc,wk1]at h;refine one hB.2 hB.1 (λht=>?_) (λ_=>h);rw [<-hTi]at ht;cases ht
  | k+3,_,hk0,_,_,_=>simp at hk0
def Jkp(P:Program)(ops:Array Oper)(K:Act->World->Prop): List Oper->Act->World->Prop
 | [],a,w=>K a w
 | o::r,a,w=>∃ v,YieldsIf P ops (λ_=>True) o v a/\Jkp P ops K r (a.put o.dst v) w
def Jvw(ops:Array Oper)(s:List (Nat×Nat)): List Nat->Array Bool->Bool
 | [],listed=>Qm ops s listed
 | i::r,listed=>Nat.blt i ops.size && (Region.ready .any ops listed).contains i && Region.free .any ops listed i && Jvw ops s r (listed.setIfInBounds i true)
def Jqb(l:List Oper): List Nat->List Oper
 | []=>[]
 | i::r=>match nth l i with
  | some o=>o::Jqb l r
  | none=>Jqb l r
theorem Jhj(hsel:Region.noSelect ops=true)(F:Nat){s:List (Nat×Nat)}(hk:∀ p∈s,Nat.ble p.1 2=true)(hlt:∀ p∈s,p.2<ops.size)(hKT:∀ p∈s,(p.1 == 2)=T p.2)(hR:∀ t,T t=true->t<ops.size->∀ p∈s,p.1=0->Up ops F t p.2=true): ∀ (s0:List Nat) (listed:Array Bool) (a:Act) (w:World),Closed ops listed->Jvw ops s s0 listed=true ->
  Jkp P ops (Qc P ops Q (Ja ops.toList s)) (Jqb ops.toList s0) a w->Vk P ops Q T (s0.length+s.length) listed a w
 | [],listed,a,w,hcl,hB,h=>by
  simp only [List.length_nil,Nat.zero_add];exact Jhh hsel F s listed a w hcl hk hlt hKT hR hB h
 | i::r,listed,a,w,hcl,hB,h=>by
  simp only [Jvw,Bool.and_eq_true]at hB;obtain ⟨⟨⟨hi0,hr⟩,hf⟩,hB'⟩:=hB;have hi:i<ops.size:=by (have:i+1<=ops.size:=by simpa [Nat.blt] using hi0);(omega)
  have ho:ops[i]?=some ops[i]:=Array.getElem?_eq_getElem hi;have hn:nth ops.toList i=some ops[i]:=by rw [Xq];simp [hi]
  have hr':i∈Region.ready .any ops listed:=by simpa using hr
  simp only [Jqb,hn,Jkp]at h;obtain ⟨v,hy,h⟩:=h;have e:(i::r).length+s.length=(r.length+s.length)+1:=by simp;omega
  rw [e];exact Jkt (λ_ _=>True) (λ_=>trivial) (λ_ _=>trivial) ho (Region.noSelect_spec hsel) (λ_ _ _ _ _ _ _ _=>trivial) _ listed a w hcl (Region.free_spec ho hf) hr' hy
   (Jhj hsel F hk hlt hKT hR r _ _ _ (hcl.step hr') hB' h)
def Jbq(ops:Array Oper)(F:Nat)(s0:List Nat)(s:List (Nat×Nat)): Bool :=
 Region.noSelect ops && (s0.length+s.length == ops.size) && (s.all λp=>Nat.ble p.1 2) && (s.all λp=>Nat.blt p.2 ops.size) && (s.all λp=>(p.1 == 2) == Ul s p.2) &&
 ((List.range ops.size).all λt=>!Ul s t || s.all λp=>p.1 != 0 || Up ops F t p.2) && Jvw ops s s0 (Array.replicate ops.size false)
end
section
variable {P:Program} {n:Nat} {al al':AL} {w:World} {Q:Exit->Act->World->Prop} {ops:Array Oper} {s:List (Nat×Oper)} {rest:List Oper}
def WP(P:Program)(n:Nat)(ops:Array Oper)(Q:Exit->Act->World->Prop)(s:List (Nat×Oper))(l:List Oper)(al:AL)(w:World): Prop:=∀ a,Fr n al a->Jkp P ops (Qc P ops Q s) l a w
theorem Qzx{id:Nat}{l:List Oper}(F:Nat)(s0:List Nat)(s:List (Nat×Nat))(hm:P.follows .mixedOrders=true)(hB:Jbq l.toArray F s0 s=true)(h:WP P n l.toArray Q (Ja l s) (Jqb l s0) al w.drew): WC P n (.region id l.toArray true) Q al w:=by
 intro a U;simp only [Jbq,Bool.and_eq_true,beq_iff_eq,List.all_eq_true,List.mem_range,Bool.or_eq_true,Bool.not_eq_true',bne_iff_ne]at hB;obtain ⟨⟨⟨⟨⟨⟨h1,O⟩,h3⟩,h4⟩,h5⟩,h6⟩,Z⟩:=hB;refine wp_region_any hm ?_;rw [<-O];refine Jys (T:=Ul s) _ _ _ _ (Jhj h1 F (λp u=>h3 p u) (λp u=>?_) (λp u=>?_) (λt ht G p u h0=>?_) s0 _ a _ ?_ (by rw [O];exact Z) ?_)
 .have:=h4 p u;have C:p.2+1<=l.toArray.size:=by simpa [Nat.blt] using this
  omega
 .simpa using h5 p u
 .rcases h6 t G with C|C
  .rw [ht]at C;cases C
  .rcases C p u with h''|h''
   .exact absurd h0 h''
   .exact h''
 .intro k o ho J e he hb;exfalso
  simp only [Array.getD_eq_getD_getElem?,Array.getElem?_replicate]at J;split at J<;>cases J
 .have:=h a U;simpa using this
variable {d ty:Nat} {op:Op} {pos:String} {aft:Array Edge} {tt:TT}
theorem pnil(h:WD P n ops Q s al w): WP P n ops Q s [] al w:=λa o=>h a o
theorem py{v:Value}(hy:∀ w' a,Fr n al a->(execOp a.eval ⟨some d,op,ty,pos,aft,none⟩).run P w'=.ok (.value v) w')(hd:Nat.blt d n=true)(k:WP P n ops Q s rest ((d,v)::al) w): WP P n ops Q s (⟨some d,op,ty,pos,aft,none⟩::rest) al w:=λa u=>by
 have o:d<n:=by (have:d+1<=n:=by simpa [Nat.blt] using hd);(omega)
 exact ⟨v,.inl ⟨rfl,λw' _=>hy w' a u⟩,k _ (u.put o v)⟩
theorem π4[h:Tab P tt]{v:Value}(k:WP P n ops Q s rest ((d,v)::al) w)(hv:pv tt (ev al) op=some v:=by rfl)(hd:Nat.blt d n=true:=by rfl): WP P n ops Q s (⟨some d,op,ty,pos,aft,none⟩::rest) al w :=
 py (λw' a C=>Gb w' h.ok (λx u o=>C.ev o) hv) hd k
theorem π1{x y:Operand}{t yt:TypeId}{a b:Int}(k:WP P n ops Q s rest ((d,.int .i64 (a+b))::al) w)(hx:ev al x=some (.int .i64 a):=by rfl)(hy:ev al y=some (.int .i64 b):=by rfl)(hd:Nat.blt d n=true:=by rfl)(hc:-9223372036854775808<=a+b/\a+b<=9223372036854775807:=by omega):
  WP P n ops Q s (⟨some d,.binOp .add t x y yt,ty,pos,aft,none⟩::rest) al w :=
 py (λw' e G=>by
  have J:IntKind.i64.wrap (a+b)=a+b:=Gm hc;have:=Gb (P:=P) (tt:=[]) w' trivial (o:=⟨some d,.binOp .add t x y yt,ty,pos,aft,none⟩) (ρ:=e.eval) (e:=ev al) (λz u C=>G.ev C) (v:=.int .i64 (IntKind.i64.wrap (a+b))) (by simp only [pv,hx,hy,bop,if_true]);rw [J]at this;exact this) hd k
theorem π2{x y:Operand}{t yt:TypeId}{a b:Int}(k:WP P n ops Q s rest ((d,.int .i64 (a-b))::al) w)(hx:ev al x=some (.int .i64 a):=by rfl)(hy:ev al y=some (.int .i64 b):=by rfl)(hd:Nat.blt d n=true:=by rfl)(hc:-9223372036854775808<=a-b/\a-b<=9223372036854775807:=by omega):
  WP P n ops Q s (⟨some d,.binOp .sub t x y yt,ty,pos,aft,none⟩::rest) al w :=
 py (λw' e G=>by
  have J:IntKind.i64.wrap (a-b)=a-b:=Gm hc;have:=Gb (P:=P) (tt:=[]) w' trivial (o:=⟨some d,.binOp .sub t x y yt,ty,pos,aft,none⟩) (ρ:=e.eval) (e:=ev al) (λz u C=>G.ev C) (v:=.int .i64 (IntKind.i64.wrap (a-b))) (by simp only [pv,hx,hy,bop,if_true]);rw [J]at this;exact this) hd k
theorem π5(h:WD P n ops Q s al w): WP P n ops Q s [] al w:=pnil h
theorem drC[h:Tab P tt]{id:Nat}{l:List Oper}(F:Nat)(s0:List Nat)(s:List (Nat×Nat))(hB:Jbq l.toArray F s0 s=true)(k:WP P n l.toArray Q (Ja l s) (Jqb l s0) al w.drew): WC P n (.region id l.toArray true) Q al w:=Qzx F s0 s h.mixed hB k
end
end Go.Wk
namespace Go.Wk
open Go.RowKit
section
variable {P:Program} {n:Nat} {al al':AL} {w:World} {Q:Exit->Act->World->Prop} {ops:Array Oper} {drest:List (Nat×Oper)} {rest:List Oper} {s:List (Nat×Oper)}
variable {d ty:Nat} {op:Op} {pos:String} {aft:Array Edge} {tt:TT}
end
end Go.Wk
namespace Go.Wk
structure Hold(p:Prop): Prop where
 of:p
theorem ρ{p q:Prop}(h:p)(t:Hold p->q:=by intro h;(repeat first|refine ω1 ?_|refine ω2 ?_|refine ω3 ?_|refine ω4 ?_|refine ω5 ?_|refine χ1 ?_|refine κ1 ?_|refine κ2 ?_|refine χ2 ?_|refine κ3 ?_|refine ω6 ?_|refine ω7 ?_|refine ω9 ?_|refine κ4 ?_|refine κ7 ?_|refine κ8 ?_|refine χ3 ?_|refine χ4 ?_|refine κ5 ?_|refine κ6 ?_|refine χ5 ?_|refine χ6 ?_|refine χ7 ?_|refine ω8 ?_);exact h.of): q:=t ⟨h⟩
theorem ρd{p q:Prop}(h:p)(t:Hold p->q:=by intro h;(repeat first|refine δ1 ?_|refine δ2 ?_|refine δ4 ?_|refine δ5 ?_|refine δ6 ?_|refine δ7 ?_|refine δ9 ?_|refine δ8 ?_|refine χ1 ?_|refine χ2 ?_|refine χ3 ?_|refine χ4 ?_|refine χ5 ?_|refine χ6 ?_|refine χ7 ?_);exact h.of): q:=t ⟨h⟩
theorem ρp{p q:Prop}(h:p)(t:Hold p->q:=by intro h;(repeat first|refine π1 ?_|refine π2 ?_|refine π4 ?_|refine π5 ?_);exact h.of): q:=t ⟨h⟩
theorem sB{a b:AL}(h:Sub a b:=by repeat' (first|exact Sub.nil|refine Sub.cons rfl ?_)): Sub a b:=h
theorem sO{a b:AL}(h:Sub a b:=by repeat' (first|exact Sub.nil|refine Sub.cons (by first|rfl|(refine congrArg (λz=>some (Value.int .i64 z)) ?_;omega)) ?_)): Sub a b:=h
end Go.Wk
