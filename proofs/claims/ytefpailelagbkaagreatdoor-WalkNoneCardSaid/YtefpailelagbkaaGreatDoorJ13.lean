/- Part 13 of the proof: Fam, RegN. -/
import Derived.Test.YtefpailelagbkaaGreatDoorJ09
set_option linter.unusedVariables false
set_option maxRecDepth 100000
set_option maxHeartbeats 40000000
namespace Go.Wk
open Go.RowKit
def upd{α:Type}(f:Nat->α)(i:Nat)(x:α): Nat->α:=λk=>if k=i then x else f k
theorem Jjl{α:Type}(f:Nat->α)(i:Nat)(x:α): upd f i x i=x:=by simp [upd]
theorem Jjj{α:Type}(f:Nat->α){i k:Nat}(x:α)(h:k≠i): upd f i x k=f k:=by simp [upd,h]
structure Fam(w:World)(base e sz n:Nat)(v:Nat->Value)(m:Nat->Nat)(c:Nat->List Value): Prop where
 own:∀ i,i<n->w.ownsRow base e sz (v i) (m i) (c i)
 dis:∀ i j g,i<n->j<n->i≠j->(v i).ownBlock=some g->(v j).ownBlock≠some g
section
variable {w w':World} {base e sz n:Nat} {v:Nat->Value} {m:Nat->Nat} {c:Nat->List Value}
theorem Fam.ext(h:Fam w base e sz n v m c)(hx:Ext w w'): Fam w' base e sz n v m c:=⟨λi hi=>Jjb (h.own i hi) hx,h.dis⟩
theorem Fam.gr{N:Nat->Prop}(h:Fam w base e sz n v m c)(hg:GrN N w w')(hN:∀ i g,i<n->(v i).ownBlock=some g->¬ N g): Fam w' base e sz n v m c:=⟨λi hi=>Jjq (h.own i hi) hg (hN i · hi),h.dis⟩
theorem Fam.other{base' e' sz' m':Nat}{v':Value}{xs:List Value}(h:Fam w base e sz n v m c)(h':w.ownsRow base' e' sz' v' m' xs)(hg:w.grownBy w' v'.ownBlock)(hne:Nat.beq e e'=false): Fam w' base e sz n v m c :=
 ⟨λi hi=>Jjs (h.own i hi) h' hg hne,h.dis⟩
theorem Fam.lt(h:Fam w base e sz n v m c){i g:Nat}(hi:i<n)(hg:(v i).ownBlock=some g): base<=g/\g<w.heap.size:=by
 obtain ⟨_,_,_,_,j⟩:=Jjd (h.own i hi);exact j g hg
theorem Fam.upd{i m':Nat}{v':Value}{c':List Value}(h:Fam w base e sz n v m c)(hi:i<n)(ho:w'.ownsRow base e sz v' m' c')(hg:w.grownBy w' (v i).ownBlock)(hb:∀ g,v'.ownBlock=some g->(v i).ownBlock=some g∨w.heap.size<=g):
  Fam w' base e sz n (upd v i v') (upd m i m') (upd c i c'):=by
 refine ⟨λk u=>?_,λk j g u G o D C=>?_⟩
 ·by_cases e:k=i
  ·subst e;rw [Jjl,Jjl,Jjl];exact ho
  ·rw [Jjj _ _ e,Jjj _ _ e,Jjj _ _ e];refine (h.own k u).kept hg ?_;cases hb2:(v k).ownBlock with
   | none=>exact .inl rfl
   | some g=>exact .inr (λJ=>h.dis k i g u hi e hb2 J.symm)
 ·by_cases ek:k=i<;>by_cases ej:j=i
  ·omega
  ·subst ek;rw [Jjl]at D;rw [Jjj _ _ ej]at C;rcases hb g D with h'|h'
   ·exact h.dis k j g u G o h' C
   ·have:=(h.lt G C).2;omega
  ·subst ej;rw [Jjl]at C;rw [Jjj _ _ ek]at D;rcases hb g C with h'|h'
   ·exact h.dis k j g u G o D h'
   ·have:=(h.lt u D).2;omega
  ·rw [Jjj _ _ ek]at D;rw [Jjj _ _ ej]at C;exact h.dis k j g u G o D C
end
def Jvc(d:Nat)(f g:Nat->Value): List Value:=(List.range d).flatMap λl=>[f l,g l]
theorem Jzg(d:Nat)(f g:Nat->Value): Jvc (d+1) f g=Jvc d f g++[f d,g d]:=by simp [Jvc,List.range_succ,List.flatMap_append]
theorem Jqd(d:Nat)(f g:Nat->Value): (Jvc d f g).length=d*2:=by
 induction d with
 | zero=>rfl
 | succ d ih=>rw [Jzg,List.length_append,ih];simp;omega
theorem Jzp(d:Nat)(f g:Nat->Value){l:Nat}(h:l<d): (Jvc d f g)[l*2]?=some (f l)/\(Jvc d f g)[l*2+1]?=some (g l):=by
 induction d with
 | zero=>omega
 | succ d ih=>
  rw [Jzg];by_cases e:l=d
  ·subst e;rw [List.getElem?_append_right (by rw [Jqd];omega),List.getElem?_append_right (by rw [Jqd];omega),Jqd];rw [Nat.sub_self,Nat.add_sub_cancel_left];exact ⟨rfl,rfl⟩
  ·rw [List.getElem?_append_left (by rw [Jqd];omega),List.getElem?_append_left (by rw [Jqd];omega)];exact ih (by omega)
theorem Jlz{d:Nat}{f g f' g':Nat->Value}(h1:∀ l,l<d->f l=f' l)(h2:∀ l,l<d->g l=g' l): Jvc d f g=Jvc d f' g':=by
 induction d with
 | zero=>rfl
 | succ d ih=>rw [Jzg,Jzg,ih (λl i=>h1 l (by omega)) (λl i=>h2 l (by omega)),h1 d (by omega),h2 d (by omega)]
theorem Jpd(d:Nat)(f g:Nat->Value){l:Nat}(h:l<d)(u:Value): (Jvc d f g).set (l*2) u=Jvc d (upd f l u) g:=by
 induction d with
 | zero=>omega
 | succ d ih=>
  rw [Jzg,Jzg];by_cases e:l=d
  ·subst e;rw [List.set_append_right _ _ (by rw [Jqd];omega),Jqd,Nat.sub_self,List.set_cons_zero,Jjl];congr 1
   exact Jlz (λk i=>(Jjj _ _ (by omega)).symm) (λk i=>rfl)
  ·rw [List.set_append_left _ _ (by rw [Jqd];omega),ih (by omega),Jjj _ _ (by omega)]
theorem Jpc(d:Nat)(f g:Nat->Value){l:Nat}(h:l<d)(u:Value): (Jvc d f g).set (l*2+1) u=Jvc d f (upd g l u):=by
 induction d with
 | zero=>omega
 | succ d ih=>
  rw [Jzg,Jzg];by_cases e:l=d
  ·subst e;rw [List.set_append_right _ _ (by rw [Jqd];omega),Jqd,Nat.add_sub_cancel_left,List.set_cons_succ,List.set_cons_zero,Jjl];congr 1
   exact Jlz (λk i=>rfl) (λk i=>(Jjj _ _ (by omega)).symm)
  ·rw [List.set_append_left _ _ (by rw [Jqd];omega),ih (by omega),Jjj _ _ (by omega)]
theorem apb{P:Program}{n:Nat}{al:AL}{w:World}{Q:Exit->Act->World->Prop}{ops:Array Oper}{rest:List Oper}{d ty:Nat}{pos:String}{aft:Array Edge}{t e sz bytes base:Nat}{z:Value}(hE:ElT P t e sz bytes z){x y:Operand}{v:Value}{m:Nat}{xs:List Value}{A':Option Addr}{m' c':Nat}{news:List Value}(ha:w.ownsRow base e sz v m xs)(hr:Rd w sz A' m' news)(h1:∀ u∈news,u.oneCell'=true)(h63:m+m'<=maxLen)(hby:(m+m')*bytes<=140737488355328)(hbase:base<=w.heap.size)(kk:∀ v' w',w'.ownsRow base e sz v' (m+m') (xs++news)->w.grownBy w' v.ownBlock->(∀ g,v'.ownBlock=some g->v.ownBlock=some g∨w.heap.size<=g)->WL P n ops Q rest ((d,v')::al) w')(hx:ev al x=some v:=by rfl)(hy:ev al y=some (.slice A' m' c'):=by rfl)(hd:Nat.blt d n=true:=by rfl):
  WL P n ops Q (⟨some d,.call { callee:=.builtin .append,args:=#[x,y],argTypes:=#[t,t] },ty,pos,aft,none⟩::rest) al w:=by
 obtain ⟨v',w',i,J,G,D,C,o⟩:=Jbq hE base ty (.inl ha) (c':=c') hr h1 h63 hby hbase;refine wop hd (λa j=>?_) (kk v' w' (D ha) (C.elim (·.2) (λh=>Jqf h _)) o)
 simp [execOp,resolve,invoke,builtin,j.ev hx,j.ev hy,i]
end Go.Wk
namespace Go.Wk
open Go.RowKit
section
variable {N:Nat->Prop} {P:Program} {ops:Array Oper} {Q:Exit->Act->World->Prop} {T:Nat->Bool}
def Qdg(N:Nat->Prop)(P:Program)(ops:Array Oper)(Q:Exit->Act->World->Prop)(k:Nat)(o:Oper)(K:Act->World->Prop)(a:Act)(w:World): Prop :=
 match k with
 | 0=>∃ v,YieldsIf P ops (GrN N w) o v a/\K (a.put o.dst v) w
 | 1=>if Region.wanted o (yielded ops a.tmps) then o.wp P a w (λa' w'=>GrN N w w'/\K a' w') (QF Q) else K (a.put o.dst undef) w
 | _=>if Region.wanted o (yielded ops a.tmps) then o.wp P a w K (QF Q) else K (a.put o.dst undef) w
def Jqm(N:Nat->Prop)(P:Program)(ops:Array Oper)(Q:Exit->Act->World->Prop): List (Nat×Oper)->Act->World->Prop
 | [],a,w=>Q .normal a w
 | p::r,a,w=>Qdg N P ops Q p.1 p.2 (Jqm N P ops Q r) a w
def Jvv(N:Nat->Prop)(P:Program)(ops:Array Oper)(Q:Exit->Act->World->Prop)(T:Nat->Bool): Nat->Array Bool->Act->World->Prop
 | 0,listed,a,w=>Region.ready .any ops listed=[]/\Q .normal a w
 | fuel+1,listed,a,w=>
  (Region.ready .any ops listed=[]->Q .normal a w) /\
   ∀ i∈Region.ready .any ops listed,wpOp P ops (QF Q) i (λa' w'=>(T i=false->GrN N w w')/\Jvv N P ops Q T fuel (listed.setIfInBounds i true) a' w') a w
theorem Jdn: ∀ (fuel:Nat) (listed:Array Bool) (a:Act) (w:World),Jvv N P ops Q T fuel listed a w->wpAny P .any ops Q fuel listed a w
 | 0,_,_,_,h=>h
 | fuel+1,_,_,_,h=>⟨h.1,λi hi=>wpOp_mono (λa' w' h'=>Jdn fuel _ a' w' h'.2) (Jkv (h.2 i hi))⟩
theorem Jfq(S:World->World->Prop)(hS0:∀ w,S w w)(hSt:∀ {a b c},S a b->S b c->S a c){i:Nat}{oi:Oper}{v:Value}(hi:ops[i]?=some oi)(hsel:∀ (j:Nat) (o:Oper) cs b,ops[j]?=some o->o.op≠.select cs b)(hSx:∀ listed j,Closed ops listed->i∈Region.ready .any ops listed->j∈Region.ready .any ops listed->∀ w w',(T j=false->GrN N w w')->S w w'):
  ∀ (fuel:Nat) (listed:Array Bool) (a:Act) (w:World),Closed ops listed ->
   (∀ j oj,ops[j]?=some oj->j≠i->listed.getD j true=false->(∀ e∈oj.after,Region.binds .any e=true->e.on≠i)->oi.apart ops oj=true) ->
   i∈Region.ready .any ops listed->YieldsIf P ops (S w) oi v a ->
   Jvv N P ops Q T fuel (listed.setIfInBounds i true) (a.put oi.dst v) w->Jvv N P ops Q T (fuel+1) listed a w:=by
 intro fuel;induction fuel with
 | zero=>
  intro listed a w O _ D hy H;refine ⟨λh=>(by rw [h]at D;cases D),λj Z=>?_⟩;by_cases hji:j=i
  ·subst hji;exact hy.wpOp hi (hS0 w) ⟨λ_=>GrN.refl N w,H⟩
  ·have:=ready_mono Z hji;rw [H.1]at this;cases this
 | succ fuel ih=>
  intro listed a w O u D hy H;refine ⟨λh=>(by rw [h]at D;cases D),λj Z=>?_⟩;by_cases hji:j=i
  ·subst hji;exact hy.wpOp hi (hS0 w) ⟨λ_=>GrN.refl N w,H⟩
  ·obtain ⟨G,oj,J,a3⟩:=mem_ready.1 Z;have U:=H.2 j (ready_mono Z hji);have a2:∀ e∈oj.after,Region.binds .any e=true->e.on≠i:=λe he hb a7=>by
    have U:=a3 e he hb;have h0:=(mem_ready.1 D).1;rw [a7]at U;rcases Nat.lt_or_ge i listed.size with h'|h'
    ·simp [h']at h0 U;rw [h0]at U;cases U
    ·simp [Array.getElem?_eq_none h']at U
   have h2:=wpOp_putIf J (u j oj J hji G a2) (λcs b=>hsel i oi cs b hi) (λcs b=>hsel j oj cs b J) (λc a w h=>h) hy U;have C:∀ k ok,ops[k]?=some ok->k≠i->(listed.setIfInBounds j true).getD k true=false ->
     (∀ e∈ok.after,Region.binds .any e=true->e.on≠i)->oi.apart ops ok=true:=λk ok hk a6 a1 a5=>by
    refine u k ok hk a6 ?_ a5;by_cases hjk:j=k
    ·subst hjk;exact G
    ·rw [getD_set_ne true hjk]at a1;exact a1
   refine wpOp_mono (λa' w' h3=>⟨h3.2.1,ih (listed.setIfInBounds j true) a' w' (O.step Z) C (ready_mono D (Ne.symm hji)) ?_ ?_⟩) h2
   ·exact h3.1.imp (λ⟨h4,h5⟩=>⟨h4,λa4 hx=>h5 a4 (hSt (hSx listed j O D Z w w' h3.2.1) hx)⟩) id
   ·rw [Array.setIfInBounds_comm _ _ hji];exact h3.2.2
theorem Jyc(hsel:Region.noSelect ops=true)(F:Nat): ∀ (s:List (Nat×Nat)) (listed:Array Bool) (a:Act) (w:World),Closed ops listed->(∀ p∈s,Nat.ble p.1 2=true)->(∀ p∈s,p.2<ops.size)->(∀ p∈s,(p.1 == 2)=T p.2) ->
  (∀ t,T t=true->t<ops.size->∀ p∈s,p.1=0->Jnf ops F t p.2=true)->Jqv ops s listed=true->Jqm N P ops Q (Jqq ops.toList s) a w->Jvv N P ops Q T s.length listed a w
 | [],listed,a,w,_,_,_,_,_,hB,h=>⟨by simpa [Jqv] using hB,h⟩
 | (k,i)::r,listed,a,w,hcl,hk,hlt,hKT,hR,hB,h=>by
  have hi:i<ops.size:=hlt _ (mC ..);have ho:ops[i]?=some ops[i]:=Array.getElem?_eq_getElem hi;have hn:nth ops.toList i=some ops[i]:=by rw [Jxj];simp [hi]
  have hTi:=hKT _ (mC ..);have hk0:=hk _ (mC ..);simp only at hTi hk0;have hrec:Closed ops (listed.setIfInBounds i true)->Jqv ops r (listed.setIfInBounds i true)=true->∀ a w,Jqm N P ops Q (Jqq ops.toList r) a w->Jvv N P ops Q T r.length (listed.setIfInBounds i true) a w:=λhc' hB' a w h'=>
   Jyc hsel F r _ a w hc' (λp hp=>hk p (List.mem_cons_of_mem _ hp)) (λp hp=>hlt p (List.mem_cons_of_mem _ hp)) (λp hp=>hKT p (List.mem_cons_of_mem _ hp)) (λt ht htl p hp=>hR t ht htl p (List.mem_cons_of_mem _ hp)) hB' h'
  have one:Jqv ops r (listed.setIfInBounds i true)=true->Region.ready .any ops listed=[i]->(T i=false->if Region.wanted ops[i] (yielded ops a.tmps) then ops[i].wp P a w (λa' w'=>GrN N w w'/\Jqm N P ops Q (Jqq ops.toList r) a' w') (QF Q) else Jqm N P ops Q (Jqq ops.toList r) (a.put ops[i].dst undef) w) ->
    (T i=true->if Region.wanted ops[i] (yielded ops a.tmps) then ops[i].wp P a w (Jqm N P ops Q (Jqq ops.toList r)) (QF Q) else Jqm N P ops Q (Jqq ops.toList r) (a.put ops[i].dst undef) w)->Jvv N P ops Q T (r.length+1) listed a w:=λhB' hr hf ht=>by
   have hcl':Closed ops (listed.setIfInBounds i true):=hcl.step (by rw [hr];exact List.mem_singleton.2 rfl);refine ⟨λh0=>(by rw [hr]at h0;cases h0),λj hj=>?_⟩;rw [hr]at hj;obtain rfl:j=i:=by simpa using hj
   unfold wpOp;simp only [ho];cases hT:T j with
   | false=>
    have h:=hf hT;split
    ·rename_i hw;simp only [hw,if_true]at h;exact .inl (Oper.wp_mono (λa' w' h'=>⟨λ_=>h'.1,hrec hcl' hB' _ _ h'.2⟩) h)
    ·rename_i hw;simp only [hw]at h;exact ⟨λ_=>GrN.refl N w,hrec hcl' hB' _ _ h⟩
   | true=>
    have h:=ht hT;split
    ·rename_i hw;simp only [hw,if_true]at h;exact .inl (Oper.wp_mono (λa' w' h'=>⟨λh0=>(by cases h0),hrec hcl' hB' _ _ h'⟩) h)
    ·rename_i hw;simp only [hw]at h;exact ⟨λ_=>GrN.refl N w,hrec hcl' hB' _ _ h⟩
  match k,hTi,hk0,hR,hB,h with
  | 0,hTi,_,hR,hB,h=>
   simp only [Jqv,Bool.and_eq_true]at hB;obtain ⟨⟨hr,hf⟩,hB'⟩:=hB;have hr':i∈Region.ready .any ops listed:=by simpa using hr
   simp only [Jqq,hn,Jqm,Qdg]at h;obtain ⟨v,hy,h⟩:=h;refine Jfq (GrN N) (GrN.refl N) (λh k=>GrN.trans h k) ho (Region.noSelect_spec hsel) ?_ r.length listed a w hcl (Region.free_spec ho hf) hr' hy (hrec (hcl.step hr') hB' _ _ h);intro listed' j hcl' hri hrj w w' hx;cases hT:T j with
   | false=>exact hx hT
   | true=>
    obtain ⟨_,oj,hoj,_⟩:=mem_ready.1 hrj;have h1:=Jwn hcl' F j i oj hoj (Jwm hoj hrj) (hR j hT (Array.getElem?_eq_some_iff.1 hoj).1 _ (mC ..) rfl);have h0:=(mem_ready.1 hri).1;rcases Nat.lt_or_ge i listed'.size with h'|h'
    ·simp [h']at h0 h1;rw [h0]at h1;cases h1
    ·simp [Array.getElem?_eq_none h']at h1
  | 1,hTi,_,hR,hB,h=>
   simp only [Jqv,Bool.and_eq_true,beq_iff_eq]at hB;simp only [Jqq,hn,Jqm,Qdg]at h;refine one hB.2 hB.1 (λ_=>h) (λht=>?_);rw [<-hTi]at ht;cases ht
  | 2,hTi,_,hR,hB,h=>
   simp only [Jqv,Bool.and_eq_true,beq_iff_eq]at hB;simp only [Jqq,hn,Jqm,Qdg]at h;refine one hB.2 hB.1 (λht=>?_) (λ_=>h);rw [<-hTi]at ht;cases ht
  | k+3,_,hk0,_,_,_=>simp at hk0
def Qfj(ops:Array Oper)(F:Nat)(s:List (Nat×Nat)): Bool :=
 Region.noSelect ops && (s.length == ops.size) && (s.all λp=>Nat.ble p.1 2) && (s.all λp=>Nat.blt p.2 ops.size) && (s.all λp=>(p.1 == 2) == Jbp s p.2) &&
 ((List.range ops.size).all λt=>!Jbp s t || s.all λp=>p.1 != 0 || Jnf ops F t p.2) && Jqv ops s (Array.replicate ops.size false)
end
section
variable {N:Nat->Prop} {P:Program} {n:Nat} {al al':AL} {w:World} {Q:Exit->Act->World->Prop} {ops:Array Oper} {rest:List (Nat×Oper)} {drest:List (Nat×Oper)}
variable {d ty:Nat} {op:Op} {pos:String} {aft:Array Edge} {tt:TT}
def WN(N:Nat->Prop)(P:Program)(n:Nat)(ops:Array Oper)(Q:Exit->Act->World->Prop)(l:List (Nat×Oper))(al:AL)(w:World): Prop:=∀ a,Fr n al a->Jqm N P ops Q l a w
theorem Xzm{id:Nat}{l:List Oper}(N:Nat->Prop)(F:Nat)(s:List (Nat×Nat))(hm:P.follows .mixedOrders=true)(hB:Qfj l.toArray F s=true)(h:WN N P n l.toArray Q (Jqq l s) al w.drew): WC P n (.region id l.toArray true) Q al w:=by
 intro a G;simp only [Qfj,Bool.and_eq_true,beq_iff_eq,List.all_eq_true,List.mem_range,Bool.or_eq_true,Bool.not_eq_true',bne_iff_ne]at hB;obtain ⟨⟨⟨⟨⟨⟨h1,D⟩,h3⟩,Z⟩,U⟩,O⟩,J⟩:=hB;refine wp_region_any hm ?_;rw [<-D];refine Jdn (T:=Jbp s) _ _ _ _ (Jyc (N:=N) h1 F s _ a _ ?_ (λp i=>h3 p i) (λp i=>?_) (λp i=>?_) (λt ht u p i h0=>?_) (by rw [D];exact J) ?_)
 ·intro k o ho C e he hb;exfalso
  simp only [Array.getD_eq_getD_getElem?,Array.getElem?_replicate]at C;split at C<;>cases C
 ·have:=Z p i;have j:p.2+1<=l.toArray.size:=by simpa [Nat.blt] using this
  omega
 ·simpa using U p i
 ·rcases O t u with j|j
  ·rw [ht]at j;cases j
  ·rcases j p i with h''|h''
   ·exact absurd h0 h''
   ·exact h''
 ·have:=h a G;simpa using this
theorem drN[h:Tab P tt]{id:Nat}{l:List Oper}(N:Nat->Prop)(F:Nat)(s:List (Nat×Nat))(hB:Qfj l.toArray F s=true)(k:WN N P n l.toArray Q (Jqq l s) al w.drew): WC P n (.region id l.toArray true) Q al w:=Xzm N F s h.mixed hB k
def YldN(N:Nat->Prop)(P:Program)(n:Nat)(al:AL)(w:World)(o:Oper)(v:Value): Prop:=∀ w',GrN N w w'->∀ a,Fr n al a->(execOp a.eval o).run P w'=.ok (.value v) w'
theorem nnil_(h:QX n Q .normal al w): WN N P n ops Q [] al w:=λa i=>h a i
theorem ny_{v:Value}(hy:YldN N P n al w ⟨some d,op,ty,pos,aft,none⟩ v)(hd:Nat.blt d n=true)(k:WN N P n ops Q rest ((d,v)::al) w): WN N P n ops Q ((0,⟨some d,op,ty,pos,aft,none⟩)::rest) al w:=λa j=>by
 have i:d<n:=by (have:d+1<=n:=by simpa [Nat.blt] using hd);(omega)
 exact ⟨v,.inl ⟨rfl,λw' o=>hy w' o a j⟩,k _ (j.put i v)⟩
theorem np_{tt:TT}(hT:TOk P tt){v:Value}(hv:pv tt (ev al) op=some v)(hd:Nat.blt d n=true)(k:WN N P n ops Q rest ((d,v)::al) w): WN N P n ops Q ((0,⟨some d,op,ty,pos,aft,none⟩)::rest) al w :=
 ny_ (λw' _ a j=>Jrc w' hT (λx u i=>j.ev i) hv) hd k
theorem npn_{tt:TT}(hT:TOk P tt){v:Value}(hv:pv tt (ev al) op=some v)(k:WN N P n ops Q rest al w): WN N P n ops Q ((0,⟨none,op,ty,pos,aft,none⟩)::rest) al w:=λa j=>
 ⟨v,.inl ⟨rfl,λw' i=>Jrc w' hT (λx u i=>j.ev i) hv⟩,k _ j⟩
theorem Xjz{kd:Nat}{dst:Option Nat}{j s:Nat}{b:Bool}(hj:Jvp ops j=some s)(hs:lk al s=some (.bool b))(k:WN N P n ops Q ((kd,⟨dst,op,ty,pos,aft,none⟩)::rest) al w):
  WN N P n ops Q ((kd,⟨dst,op,ty,pos,aft,some (j,b)⟩)::rest) al w:=λa C=>by
 have h:=k a C;have D:=Jkt (ops:=ops) C hj hs;have u:Region.wanted (⟨dst,op,ty,pos,aft,none⟩:Oper) (yielded ops a.tmps)=true:=rfl;have o:Region.wanted (⟨dst,op,ty,pos,aft,some (j,b)⟩:Oper) (yielded ops a.tmps)=true:=by simp [Region.wanted,D]
 unfold Jqm Qdg at h ⊢;match kd,h with
 | 0,h=>
  obtain ⟨v,i,G⟩:=h;refine ⟨v,?_,G⟩;rcases i with i|i
  ·exact .inl ⟨o,i.2⟩
  ·exact absurd i.1 (by rw [u];simp)
 | 1,h=>simp only [u,if_true]at h;simp only [o,if_true];exact h
 | k+2,h=>simp only [u,if_true]at h;simp only [o,if_true];exact h
theorem Xwf{kd:Nat}{j s:Nat}{b c:Bool}(hj:Jvp ops j=some s)(hs:lk al s=some (.bool b))(hne:(b == c)=false)(hd:Nat.blt d n=true)(k:WN N P n ops Q rest ((d,undef)::al) w):
  WN N P n ops Q ((kd,⟨some d,op,ty,pos,aft,some (j,c)⟩)::rest) al w:=λa C=>by
 have i:d<n:=by (have:d+1<=n:=by simpa [Nat.blt] using hd);(omega)
 have D:=Jkt (ops:=ops) C hj hs;have u:Region.wanted (⟨some d,op,ty,pos,aft,some (j,c)⟩:Oper) (yielded ops a.tmps)=false:=by
  simp [Region.wanted,D];simpa using hne
 have o:=k _ (C.put i undef);unfold Jqm Qdg;match kd with
 | 0=>exact ⟨undef,.inr ⟨u,rfl⟩,o⟩
 | 1=>simp only [u];exact o
 | m+2=>simp only [u];exact o
theorem ν9{kd:Nat}{j s:Nat}{c:Bool}(k:WN N P n ops Q drest ((d,undef)::al) w)(hj:Jvp ops j=some s:=by rfl)(hs:lk al s=some undef:=by rfl)(hd:Nat.blt d n=true:=by rfl):
  WN N P n ops Q ((kd,⟨some d,op,ty,pos,aft,some (j,c)⟩)::drest) al w:=λa C=>by
 have i:d<n:=by (have:d+1<=n:=by simpa [Nat.blt] using hd);(omega)
 have D:=Jvh (ops:=ops) C hj hs;have u:Region.wanted (⟨some d,op,ty,pos,aft,some (j,c)⟩:Oper) (yielded ops a.tmps)=false:=by simp [Region.wanted,D]
 have o:=k _ (C.put i undef);unfold Jqm Qdg;match kd with
 | 0=>exact ⟨undef,.inr ⟨u,rfl⟩,o⟩
 | 1=>simp only [u];exact o
 | m+2=>simp only [u];exact o
theorem ν4[h:Tab P tt]{v:Value}(k:WN N P n ops Q drest ((d,v)::al) w)(hv:pv tt (ev al) op=some v:=by rfl)(hd:Nat.blt d n=true:=by rfl): WN N P n ops Q ((0,⟨some d,op,ty,pos,aft,none⟩)::drest) al w:=np_ h.ok hv hd k
theorem ν5(h:QX n Q .normal al w): WN N P n ops Q [] al w:=nnil_ h
theorem ν6{kd:Nat}{dst:Option Nat}{j s:Nat}{b:Bool}(k:WN N P n ops Q ((kd,⟨dst,op,ty,pos,aft,none⟩)::drest) al w)(hj:Jvp ops j=some s:=by rfl)(hs:lk al s=some (.bool b):=by rfl): WN N P n ops Q ((kd,⟨dst,op,ty,pos,aft,some (j,b)⟩)::drest) al w:=Xjz hj hs k
theorem ν7{kd:Nat}{j s:Nat}{b c:Bool}(k:WN N P n ops Q drest ((d,undef)::al) w)(hj:Jvp ops j=some s:=by rfl)(hs:lk al s=some (.bool b):=by rfl)(hne:(b == c)=false:=by rfl)(hd:Nat.blt d n=true:=by rfl):
  WN N P n ops Q ((kd,⟨some d,op,ty,pos,aft,some (j,c)⟩)::drest) al w:=Xwf hj hs hne hd k
theorem ν8[h:Tab P tt]{v:Value}(k:WN N P n ops Q drest al w)(hv:pv tt (ev al) op=some v:=by rfl): WN N P n ops Q ((0,⟨none,op,ty,pos,aft,none⟩)::drest) al w:=npn_ h.ok hv k
theorem nadd_{x y:Operand}{t yt:TypeId}{a b:Int}(hx:ev al x=some (.int .i64 a))(hy:ev al y=some (.int .i64 b))(hc:-9223372036854775808<=a+b/\a+b<=9223372036854775807)(hd:Nat.blt d n=true)(k:WN N P n ops Q rest ((d,.int .i64 (a+b))::al) w): WN N P n ops Q ((0,⟨some d,.binOp .add t x y yt,ty,pos,aft,none⟩)::rest) al w:=by
 have e:IntKind.i64.wrap (a+b)=a+b:=by rw [IntKind.wrap_i64];omega
 exact np_ (tt:=[]) trivial (v:=.int .i64 (a+b)) (by simp only [pv,hx,hy,bop,if_true,e]) hd k
theorem nsub_{x y:Operand}{t yt:TypeId}{a b:Int}(hx:ev al x=some (.int .i64 a))(hy:ev al y=some (.int .i64 b))(hc:-9223372036854775808<=a-b/\a-b<=9223372036854775807)(hd:Nat.blt d n=true)(k:WN N P n ops Q rest ((d,.int .i64 (a-b))::al) w): WN N P n ops Q ((0,⟨some d,.binOp .sub t x y yt,ty,pos,aft,none⟩)::rest) al w:=by
 have e:IntKind.i64.wrap (a-b)=a-b:=by rw [IntKind.wrap_i64];omega
 exact np_ (tt:=[]) trivial (v:=.int .i64 (a-b)) (by simp only [pv,hx,hy,bop,if_true,e]) hd k
theorem ν1{x y:Operand}{t yt:TypeId}{a b:Int}(k:WN N P n ops Q drest ((d,.int .i64 (a+b))::al) w)(hx:ev al x=some (.int .i64 a):=by rfl)(hy:ev al y=some (.int .i64 b):=by rfl)(hd:Nat.blt d n=true:=by rfl)(hc:-9223372036854775808<=a+b/\a+b<=9223372036854775807:=by omega):
  WN N P n ops Q ((0,⟨some d,.binOp .add t x y yt,ty,pos,aft,none⟩)::drest) al w:=nadd_ hx hy hc hd k
theorem ν2{x y:Operand}{t yt:TypeId}{a b:Int}(k:WN N P n ops Q drest ((d,.int .i64 (a-b))::al) w)(hx:ev al x=some (.int .i64 a):=by rfl)(hy:ev al y=some (.int .i64 b):=by rfl)(hd:Nat.blt d n=true:=by rfl)(hc:-9223372036854775808<=a-b/\a-b<=9223372036854775807:=by omega):
  WN N P n ops Q ((0,⟨some d,.binOp .sub t x y yt,ty,pos,aft,none⟩)::drest) al w:=nsub_ hx hy hc hd k
theorem nload(hT:TOk P tt){x:Operand}{t:Nat}{k:TK}{p:Addr}{v:Value}(ht:tk tt t=some k)(hk:Jwb k.desc=true)(hx:ev al x=some (.pointer (some p)))(hc:∀ w',GrN N w w'->w'.cell? p=some v)(hd:Nat.blt d n=true)(kk:WN N P n ops Q rest ((d,v)::al) w): WN N P n ops Q ((0,⟨some d,.load t x,ty,pos,aft,none⟩)::rest) al w :=
 ny_ (λw' i a j=>by simp [execOp,j.ev hx,Instr.loadAt,Instr.sureAddr,Jth (w:=w') hT ht hk (hc w' i)]) hd kk
theorem Xwg(hT:TOk P tt){x:Operand}{t:Nat}{k:TK}{p:Addr}{cs:List Value}(ht:tk tt t=some k)(hk:k.desc=.invalid)(hl:k.size=cs.length)(hx:ev al x=some (.pointer (some p)))(hc:∀ w',GrN N w w'->∀ j u,cs[j]?=some u->w'.cell? (p.add j)=some u)(hd:Nat.blt d n=true)(kk:WN N P n ops Q rest ((d,.agg cs.toArray)::al) w): WN N P n ops Q ((0,⟨some d,.load t x,ty,pos,aft,none⟩)::rest) al w :=
 ny_ (λw' i a o=>by simp [execOp,o.ev hx,Instr.loadAt,Instr.sureAddr,Jkz (w:=w') hT ht hk hl (hc w' i)]) hd kk
theorem Qgh(hT:TOk P tt){x i:Operand}{t e sz:Nat}{k:TK}{A:Option Addr}{m c:Nat}{kd:IntKind}{z:Int}{cs:List Value}(q:Nat)(j:Nat)(ht:tk tt t=some k)(hk:k.desc=.slice e)(hz:k.esz=sz)(hx:ev al x=some (.slice A m c))(hi:ev al i=some (.int kd z))(hr:Rd w sz A m cs)(hj:z=(j:Int))(hlt:j<m)(h0:0<sz)(hq:j*sz=q)(hd:Nat.blt d n=true)(kk:WN N P n ops Q rest ((d,.pointer (some (adr A q)))::al) w): WN N P n ops Q ((0,⟨some d,.indexAddr t x i,ty,pos,aft,none⟩)::rest) al w:=by
 obtain ⟨u,C⟩:=Jwk hT ht hk hz;obtain ⟨J,rfl,G⟩:=hr.isome (by omega) h0;subst hj;subst hq;refine ny_ (λw' D a o=>?_) hd kk;simp [execOp,o.ev hx,o.ev hi,Instr.indexAt,asIntOf,run_underlying u,Jql w' C,adr];intro h;omega
theorem Xjx(hT:TOk P tt){x i:Operand}{t e:Nat}{k:TK}{A:Option Addr}{m c:Nat}{kd:IntKind}{z:Int}{cs:List Value}(j:Nat)(ht:tk tt t=some k)(hk:k.desc=.slice e)(hz:k.esz=1)(hx:ev al x=some (.slice A m c))(hi:ev al i=some (.int kd z))(hr:Rd w 1 A m cs)(hj:z=(j:Int))(hlt:j<m)(hd:Nat.blt d n=true)(kk:WN N P n ops Q rest ((d,.pointer (some (adr A j)))::al) w): WN N P n ops Q ((0,⟨some d,.indexAddr t x i,ty,pos,aft,none⟩)::rest) al w :=
 Qgh hT j j ht hk hz hx hi hr hj hlt (by omega) (by omega) hd kk
theorem nld[h:Tab P tt]{x:Operand}{t:Nat}{k:TK}{p:Addr}{v:Value}(hc:∀ w',GrN N w w'->w'.cell? p=some v)(kk:WN N P n ops Q drest ((d,v)::al) w)(ht:tk tt t=some k:=by rfl)(hk:Jwb k.desc=true:=by rfl)(hx:ev al x=some (.pointer (some p)):=by rfl)(hd:Nat.blt d n=true:=by rfl): WN N P n ops Q ((0,⟨some d,.load t x,ty,pos,aft,none⟩)::drest) al w:=nload h.ok ht hk hx hc hd kk
theorem Jlg[h:Tab P tt]{x:Operand}{t:Nat}{k:TK}{p:Addr}{cs:List Value}(hc:∀ w',GrN N w w'->∀ j u,cs[j]?=some u->w'.cell? (p.add j)=some u)(kk:WN N P n ops Q drest ((d,.agg cs.toArray)::al) w)(ht:tk tt t=some k:=by rfl)(hk:k.desc=.invalid:=by rfl)(hl:k.size=cs.length:=by rfl)(hx:ev al x=some (.pointer (some p)):=by rfl)(hd:Nat.blt d n=true:=by rfl): WN N P n ops Q ((0,⟨some d,.load t x,ty,pos,aft,none⟩)::drest) al w:=Xwg h.ok ht hk hl hx hc hd kk
theorem nix[h:Tab P tt]{x i:Operand}{t e:Nat}{k:TK}{A:Option Addr}{m c:Nat}{kd:IntKind}{z:Int}{cs:List Value}(j:Nat)(hr:Rd w 1 A m cs)(hlt:j<m)(kk:WN N P n ops Q drest ((d,.pointer (some (adr A j)))::al) w)(ht:tk tt t=some k:=by rfl)(hk:k.desc=.slice e:=by rfl)(hz:k.esz=1:=by rfl)(hx:ev al x=some (.slice A m c):=by rfl)(hi:ev al i=some (.int kd z):=by rfl)(hj:z=(j:Int):=by first|rfl|omega)(hd:Nat.blt d n=true:=by rfl):
  WN N P n ops Q ((0,⟨some d,.indexAddr t x i,ty,pos,aft,none⟩)::drest) al w:=Xjx h.ok j ht hk hz hx hi hr hj hlt hd kk
theorem Qbb[h:Tab P tt]{x i:Operand}{t e:Nat}{k:TK}{A:Option Addr}{m c:Nat}{kd:IntKind}{z:Int}{cs:List Value}(sz j:Nat)(hr:Rd w sz A m cs)(hlt:j<m)(kk:WN N P n ops Q drest ((d,.pointer (some (adr A (j*sz))))::al) w)(ht:tk tt t=some k:=by rfl)(hk:k.desc=.slice e:=by rfl)(hz:k.esz=sz:=by rfl)(hx:ev al x=some (.slice A m c):=by rfl)(hi:ev al i=some (.int kd z):=by rfl)(hj:z=(j:Int):=by first|rfl|omega)(h0:0<sz:=by omega)(hd:Nat.blt d n=true:=by rfl):
  WN N P n ops Q ((0,⟨some d,.indexAddr t x i,ty,pos,aft,none⟩)::drest) al w:=Qgh h.ok (j*sz) j ht hk hz hx hi hr hj hlt h0 rfl hd kk
def toN(N:Nat->Prop)(P:Program)(ops:Array Oper)(Q:Exit->Act->World->Prop)(w0:World)(rest:List (Nat×Oper)): Exit->Act->World->Prop
 | .normal,a,w=>GrN N w0 w/\Jqm N P ops Q rest a w
 | _,_,_=>False
theorem Jqt{w0:World}(hx:GrN N w0 w)(h:WN N P n ops Q drest al w): QX n (toN N P ops Q w0 drest) .normal al w:=λa i=>⟨hx,h a i⟩
theorem nop{o:Oper}(h:WL P n ops (toN N P ops Q w drest) [o] al w): WN N P n ops Q ((1,o)::drest) al w:=λa C=>by
 have i:=h a C;unfold wpList at i;unfold Jqm Qdg;simp only;have j:¬ LetsOut (toN N P ops Q w drest):=by rintro ⟨a,w,h⟩;exact h
 split
 ·rename_i hw;simp only [hw,if_true]at i;rcases i with i|⟨_,i⟩
  ·refine Oper.wp_mono (K:=wpList P ops (toN N P ops Q w drest) []) (λG w' D=>D) ?_;unfold Oper.wp at i ⊢;exact Jxc (Q:=toN N P ops Q w drest) (λc a w u=>u.elim) (λu=>absurd u j) i
  ·exact absurd i j
 ·rename_i hw;simp only [hw]at i;exact i.2
def toT(N:Nat->Prop)(P:Program)(ops:Array Oper)(Q:Exit->Act->World->Prop)(rest:List (Nat×Oper)): Exit->Act->World->Prop
 | .normal,a,w=>Jqm N P ops Q rest a w
 | _,_,_=>False
theorem Jbv(h:WN N P n ops Q drest al w): QX n (toT N P ops Q drest) .normal al w:=h
theorem Jzx{o:Oper}(h:WL P n ops (toT N P ops Q drest) [o] al w): WN N P n ops Q ((2,o)::drest) al w:=λa C=>by
 have i:=h a C;unfold wpList at i;unfold Jqm Qdg;simp only;have j:¬ LetsOut (toT N P ops Q drest):=by rintro ⟨a,w,h⟩;exact h
 split
 ·rename_i hw;simp only [hw,if_true]at i;rcases i with i|⟨_,i⟩
  ·refine Oper.wp_mono (K:=Jqm N P ops Q drest) (λG w' D=>D) ?_;unfold Oper.wp at i ⊢;exact Jxc (Q:=toT N P ops Q drest) (λc a w u=>u.elim) (λu=>absurd u j) i
  ·exact absurd i j
 ·rename_i hw;simp only [hw]at i;exact i
theorem Jjg{p:Addr}{v:Value}(hc:w.cell? p=some v)(hn:¬ N p.block): ∀ w',GrN N w w'->w'.cell? p=some v:=λw' i=>by
 rw [<-hc];exact World.cell?_of_block (i.block _ (World.block_lt_of_cell? w p hc) hn)
end
end Go.Wk
namespace Go.Wk
theorem ρn{p q:Prop}(h:p)(t:Hold p->q:=by intro h;(repeat first|refine ν1 ?_|refine ν2 ?_|refine ν4 ?_|refine ν5 ?_|refine ν6 ?_|refine ν7 ?_|refine ν9 ?_|refine ν8 ?_|refine χ1 ?_|refine χ2 ?_|refine χ3 ?_|refine χ4 ?_|refine χ5 ?_|refine χ6 ?_|refine χ7 ?_);exact h.of): q:=t ⟨h⟩
end Go.Wk
