/- Part 14. -/
import Derived.Test.YtebcagekopgdhaaGreatDoorB10
set_option linter.unusedVariables false
set_option maxRecDepth 100000
set_option maxHeartbeats 40000000
namespace Go.Wk
open Go.RowKit
def upd{α:Type}(f:Nat->α)(i:Nat)(x:α): Nat->α:=λk=>if k=i then x else f k
theorem Jf{α:Type}(f:Nat->α)(i:Nat)(x:α): upd f i x i=x:=by simp [upd]
theorem Jy{α:Type}(f:Nat->α){i k:Nat}(x:α)(h:k≠i): upd f i x k=f k:=by simp [upd,h]
structure Fam(w:World)(base e sz n:Nat)(v:Nat->Value)(m:Nat->Nat)(c:Nat->List Value): Prop where
 own:∀ i,i<n->w.ownsRow base e sz (v i) (m i) (c i)
 dis:∀ i j g,i<n->j<n->i≠j->(v i).ownBlock=some g->(v j).ownBlock≠some g
section
variable {w w':World} {base e sz n:Nat} {v:Nat->Value} {m:Nat->Nat} {c:Nat->List Value}
theorem Fam.ext(h:Fam w base e sz n v m c)(hx:Ext w w'): Fam w' base e sz n v m c:=⟨λi hi=>Jk (h.own i hi) hx,h.dis⟩
theorem Fam.gr{N:Nat->Prop}(h:Fam w base e sz n v m c)(hg:GrN N w w')(hN:∀ i g,i<n->(v i).ownBlock=some g->¬ N g): Fam w' base e sz n v m c:=⟨λi hi=>Jr (h.own i hi) hg (hN i · hi),h.dis⟩
theorem Fam.other{base' e' sz' m':Nat}{v':Value}{xs:List Value}(h:Fam w base e sz n v m c)(h':w.ownsRow base' e' sz' v' m' xs)(hg:w.grownBy w' v'.ownBlock)(hne:Nat.beq e e'=false): Fam w' base e sz n v m c :=
 ⟨λi hi=>Xe (h.own i hi) h' hg hne,h.dis⟩
theorem Fam.lt(h:Fam w base e sz n v m c){i g:Nat}(hi:i<n)(hg:(v i).ownBlock=some g): base<=g/\g<w.heap.size:=by
 obtain ⟨_,_,_,_,o⟩:=Jv (h.own i hi);exact o g hg
theorem Fam.upd{i m':Nat}{v':Value}{c':List Value}(h:Fam w base e sz n v m c)(hi:i<n)(ho:w'.ownsRow base e sz v' m' c')(hg:w.grownBy w' (v i).ownBlock)(hb:∀ g,v'.ownBlock=some g->(v i).ownBlock=some g∨w.heap.size<=g):
  Fam w' base e sz n (upd v i v') (upd m i m') (upd c i c'):=by
 refine ⟨λk u=>?_,λk j g u J o G C=>?_⟩
 .by_cases e:k=i
  .subst e;rw [Jf,Jf,Jf];exact ho
  .rw [Jy _ _ e,Jy _ _ e,Jy _ _ e];refine (h.own k u).kept hg ?_;cases hb2:(v k).ownBlock with
   | none=>exact .inl rfl
   | some g=>exact .inr (λO=>h.dis k i g u hi e hb2 O.symm)
 .by_cases ek:k=i<;>by_cases ej:j=i
  .omega
  .subst ek;rw [Jf]at G;rw [Jy _ _ ej]at C;rcases hb g G with h'|h'
   .exact h.dis k j g u J o h' C
   .have:=(h.lt J C).2;omega
  .subst ej;rw [Jf]at C;rw [Jy _ _ ek]at G;rcases hb g C with h'|h'
   .exact h.dis k j g u J o G h'
   .have:=(h.lt u G).2;omega
  .rw [Jy _ _ ek]at G;rw [Jy _ _ ej]at C;exact h.dis k j g u J o G C
end
def Zz(d:Nat)(f g:Nat->Value): List Value:=(List.range d).flatMap λl=>[f l,g l]
theorem Kh(d:Nat)(f g:Nat->Value): Zz (d+1) f g=Zz d f g++[f d,g d]:=by simp [Zz,List.range_succ,List.flatMap_append]
theorem Xu(d:Nat)(f g:Nat->Value): (Zz d f g).length=d*2:=by
 induction d with
 | zero=>rfl
 | succ d ih=>rw [Kh,List.length_append,ih];simp;omega
theorem Gr(d:Nat)(f g:Nat->Value){l:Nat}(h:l<d): (Zz d f g)[l*2]?=some (f l)/\(Zz d f g)[l*2+1]?=some (g l):=by
 induction d with
 | zero=>omega
 | succ d ih=>
  rw [Kh];by_cases e:l=d
  .subst e;rw [List.getElem?_append_right (by rw [Xu];omega),List.getElem?_append_right (by rw [Xu];omega),Xu];rw [Nat.sub_self,Nat.add_sub_cancel_left];exact ⟨rfl,rfl⟩
  .rw [List.getElem?_append_left (by rw [Xu];omega),List.getElem?_append_left (by rw [Xu];omega)];exact ih om
theorem Jsz{d:Nat}{f g f' g':Nat->Value}(h1:∀ l,l<d->f l=f' l)(h2:∀ l,l<d->g l=g' l): Zz d f g=Zz d f' g':=by
 induction d with
 | zero=>rfl
 | succ d ih=>rw [Kh,Kh,ih (λl o=>h1 l om) (λl o=>h2 l om),h1 d om,h2 d om]
theorem Jsx(d:Nat)(f g:Nat->Value){l:Nat}(h:l<d)(u:Value): (Zz d f g).set (l*2) u=Zz d (upd f l u) g:=by
 induction d with
 | zero=>omega
 | succ d ih=>
  rw [Kh,Kh];by_cases e:l=d
  .subst e;rw [List.set_append_right _ _ (by rw [Xu];omega),Xu,Nat.sub_self,List.set_cons_zero,Jf];congr 1
   exact Jsz (λk o=>(Jy _ _ om).symm) (λk o=>rfl)
  .rw [List.set_append_left _ _ (by rw [Xu];omega),ih om,Jy _ _ om]
theorem Jsw(d:Nat)(f g:Nat->Value){l:Nat}(h:l<d)(u:Value): (Zz d f g).set (l*2+1) u=Zz d f (upd g l u):=by
 induction d with
 | zero=>omega
 | succ d ih=>
  rw [Kh,Kh];by_cases e:l=d
  .subst e;rw [List.set_append_right _ _ (by rw [Xu];omega),Xu,Nat.add_sub_cancel_left,List.set_cons_succ,List.set_cons_zero,Jf];congr 1
   exact Jsz (λk o=>rfl) (λk o=>(Jy _ _ om).symm)
  .rw [List.set_append_left _ _ (by rw [Xu];omega),ih om,Jy _ _ om]
theorem apb{P:Program}{n:Nat}{al:AL}{w:World}{Q:Exit->Act->World->Prop}{ops:Array Oper}{rest:List Oper}{d ty:Nat}{pos:String}{aft:Array Edge}{t e sz bytes base:Nat}{z:Value}(hE:ElT P t e sz bytes z){x y:Operand}{v:Value}{m:Nat}{xs:List Value}{A':Option Addr}{m' c':Nat}{news:List Value}(ha:w.ownsRow base e sz v m xs)(hr:Rd w sz A' m' news)(h1:∀ u∈news,u.oneCell'=true)(h63:m+m'<=maxLen)(hby:(m+m')*bytes<=140737488355328)(hbase:base<=w.heap.size)(kk:∀ v' w',w'.ownsRow base e sz v' (m+m') (xs++news)->w.grownBy w' v.ownBlock->(∀ g,v'.ownBlock=some g->v.ownBlock=some g∨w.heap.size<=g)->WL P n ops Q rest ((d,v')::al) w')(hx:ev al x=some v:=by rfl)(hy:ev al y=some (.slice A' m' c'):=by rfl)(hd:Nat.blt d n=true:=by rfl):
  WL P n ops Q (⟨some d,.call { callee:=.builtin .append,args:=#[x,y],argTypes:=#[t,t] },ty,pos,aft,none⟩::rest) al w:=by
 obtain ⟨v',w',o,Z,U,O,J,G⟩:=Jmw hE base ty (.inl ha) (c':=c') hr h1 h63 hby hbase;refine wop hd (λa C=>?_) (kk v' w' (O ha) (J.elim (·.2) (λh=>Zk h _)) G)
 simp [execOp,resolve,invoke,builtin,C.ev hx,C.ev hy,o]
end Go.Wk
namespace Go.Wk
open Go.RowKit
section
variable {N:Nat->Prop} {P:Program} {ops:Array Oper} {Q:Exit->Act->World->Prop} {T:Nat->Bool}
def Yr(N:Nat->Prop)(P:Program)(ops:Array Oper)(Q:Exit->Act->World->Prop)(k:Nat)(o:Oper)(K:Act->World->Prop)(a:Act)(w:World): Prop :=
 match k with
 | 0=>∃ v,YieldsIf P ops (GrN N w) o v a/\K (a.put o.dst v) w
 | 1=>if Region.wanted o (yielded ops a.tmps) then o.wp P a w (λa' w'=>GrN N w w'/\K a' w') (QF Q) else K (a.put o.dst undef) w
 | _=>if Region.wanted o (yielded ops a.tmps) then o.wp P a w K (QF Q) else K (a.put o.dst undef) w
def Xp(N:Nat->Prop)(P:Program)(ops:Array Oper)(Q:Exit->Act->World->Prop): List (Nat×Oper)->Act->World->Prop
 | [],a,w=>Q .normal a w
 | p::r,a,w=>Yr N P ops Q p.1 p.2 (Xp N P ops Q r) a w
def Yv(N:Nat->Prop)(P:Program)(ops:Array Oper)(Q:Exit->Act->World->Prop)(T:Nat->Bool): Nat->Array Bool->Act->World->Prop
 | 0,listed,a,w=>Region.ready .any ops listed=[]/\Q .normal a w
 | fuel+1,listed,a,w=>
  (Region.ready .any ops listed=[]->Q .normal a w) /\
   ∀ i∈Region.ready .any ops listed,wpOp P ops (QF Q) i (λa' w'=>(T i=false->GrN N w w')/\Yv N P ops Q T fuel (listed.setIfInBounds i true) a' w') a w
theorem Jyq: ∀ (fuel:Nat) (listed:Array Bool) (a:Act) (w:World),Yv N P ops Q T fuel listed a w->wpAny P .any ops Q fuel listed a w
 | 0,_,_,_,h=>h
 | fuel+1,_,_,_,h=>⟨h.1,λi hi=>wpOp_mono (λa' w' h'=>Jyq fuel _ a' w' h'.2) (Jjc (h.2 i hi))⟩
theorem Jhc(S:World->World->Prop)(hS0:∀ w,S w w)(hSt:∀ {a b c},S a b->S b c->S a c){i:Nat}{oi:Oper}{v:Value}(hi:ops[i]?=some oi)(hsel:∀ (j:Nat) (o:Oper) cs b,ops[j]?=some o->o.op≠.select cs b)(hSx:∀ listed j,Closed ops listed->i∈Region.ready .any ops listed->j∈Region.ready .any ops listed->∀ w w',(T j=false->GrN N w w')->S w w'):
  ∀ (fuel:Nat) (listed:Array Bool) (a:Act) (w:World),Closed ops listed ->
   (∀ j oj,ops[j]?=some oj->j≠i->listed.getD j true=false->(∀ e∈oj.after,Region.binds .any e=true->e.on≠i)->oi.apart ops oj=true) ->
   i∈Region.ready .any ops listed->YieldsIf P ops (S w) oi v a ->
   Yv N P ops Q T fuel (listed.setIfInBounds i true) (a.put oi.dst v) w->Yv N P ops Q T (fuel+1) listed a w:=by
 intro fuel;induction fuel with
 | zero=>
  intro listed a w U _ G hy H;refine ⟨λh=>(by rw [h]at G;cases G),λj hj=>?_⟩;by_cases hji:j=i
  .subst hji;exact hy.wpOp hi (hS0 w) ⟨λ_=>GrN.refl N w,H⟩
  .have:=ready_mono hj hji;rw [H.1]at this;cases this
 | succ fuel ih=>
  intro listed a w U u G hy H;refine ⟨λh=>(by rw [h]at G;cases G),λj hj=>?_⟩;by_cases hji:j=i
  .subst hji;exact hy.wpOp hi (hS0 w) ⟨λ_=>GrN.refl N w,H⟩
  .obtain ⟨J,oj,O,a3⟩:=mem_ready.1 hj;have Z:=H.2 j (ready_mono hj hji);have a2:∀ e∈oj.after,Region.binds .any e=true->e.on≠i:=λe he hb a7=>by
    have Z:=a3 e he hb;have h0:=(mem_ready.1 G).1;rw [a7]at Z;rcases Nat.lt_or_ge i listed.size with h'|h'
    .simp [h']at h0 Z;rw [h0]at Z;cases Z
    .simp [Array.getElem?_eq_none h']at Z
   have h2:=wpOp_putIf O (u j oj O hji J a2) (λcs b=>hsel i oi cs b hi) (λcs b=>hsel j oj cs b O) (λc a w h=>h) hy Z;have C:∀ k ok,ops[k]?=some ok->k≠i->(listed.setIfInBounds j true).getD k true=false ->
     (∀ e∈ok.after,Region.binds .any e=true->e.on≠i)->oi.apart ops ok=true:=λk ok hk a6 a1 a5=>by
    refine u k ok hk a6 ?_ a5;by_cases hjk:j=k
    .subst hjk;exact J
    .rw [getD_set_ne true hjk]at a1;exact a1
   refine wpOp_mono (λa' w' h3=>⟨h3.2.1,ih (listed.setIfInBounds j true) a' w' (U.step hj) C (ready_mono G (Ne.symm hji)) ?_ ?_⟩) h2
   .exact h3.1.imp (λ⟨h4,h5⟩=>⟨h4,λa4 hx=>h5 a4 (hSt (hSx listed j U G hj w w' h3.2.1) hx)⟩) id
   .rw [Array.setIfInBounds_comm _ _ hji];exact h3.2.2
theorem Jhb(hsel:Region.noSelect ops=true)(F:Nat): ∀ (s:List (Nat×Nat)) (listed:Array Bool) (a:Act) (w:World),Closed ops listed->(∀ p∈s,Nat.ble p.1 2=true)->(∀ p∈s,p.2<ops.size)->(∀ p∈s,(p.1 == 2)=T p.2) ->
  (∀ t,T t=true->t<ops.size->∀ p∈s,p.1=0->Up ops F t p.2=true)->Qm ops s listed=true->Xp N P ops Q (Ja ops.toList s) a w->Yv N P ops Q T s.length listed a w
 | [],listed,a,w,_,_,_,_,_,hB,h=>⟨by simpa [Qm] using hB,h⟩
 | (k,i)::r,listed,a,w,hcl,hk,hlt,hKT,hR,hB,h=>by
  have hi:i<ops.size:=hlt _ (mC ..);have ho:ops[i]?=some ops[i]:=Array.getElem?_eq_getElem hi;have hn:nth ops.toList i=some ops[i]:=by rw [Xq];simp [hi]
  have hTi:=hKT _ (mC ..);have hk0:=hk _ (mC ..);simp only at hTi hk0;have hrec:Closed ops (listed.setIfInBounds i true)->Qm ops r (listed.setIfInBounds i true)=true->∀ a w,Xp N P ops Q (Ja ops.toList r) a w->Yv N P ops Q T r.length (listed.setIfInBounds i true) a w:=λhc' hB' a w h'=>
   Jhb hsel F r _ a w hc' (λp hp=>hk p (List.mem_cons_of_mem _ hp)) (λp hp=>hlt p (List.mem_cons_of_mem _ hp)) (λp hp=>hKT p (List.mem_cons_of_mem _ hp)) (λt ht htl p hp=>hR t ht htl p (List.mem_cons_of_mem _ hp)) hB' h'
  have one:Qm ops r (listed.setIfInBounds i true)=true->Region.ready .any ops listed=[i]->(T i=false->if Region.wanted ops[i] (yielded ops a.tmps) then ops[i].wp P a w (λa' w'=>GrN N w w'/\Xp N P ops Q (Ja ops.toList r) a' w') (QF Q) else Xp N P ops Q (Ja ops.toList r) (a.put ops[i].dst undef) w) ->
    (T i=true->if Region.wanted ops[i] (yielded ops a.tmps) then ops[i].wp P a w (Xp N P ops Q (Ja ops.toList r)) (QF Q) else Xp N P ops Q (Ja ops.toList r) (a.put ops[i].dst undef) w)->Yv N P ops Q T (r.length+1) listed a w:=λhB' hr hf ht=>by
   have hcl':Closed ops (listed.setIfInBounds i true):=hcl.step (by rw [hr];exact List.mem_singleton.2 rfl);refine ⟨λh0=>(by rw [hr]at h0;cases h0),λj hj=>?_⟩;rw [hr]at hj;obtain rfl:j=i:=by simpa using hj
   unfold wpOp;simp only [ho];cases hT:T j with
   | false=>
    have h:=hf hT;split
    .rename_i hw;simp only [hw,if_true]at h;exact .inl (Oper.wp_mono (λa' w' h'=>⟨λ_=>h'.1,hrec hcl' hB' _ _ h'.2⟩) h)
    .rename_i hw;simp only [hw]at h;exact ⟨λ_=>GrN.refl N w,hrec hcl' hB' _ _ h⟩
   | true=>
    have h:=ht hT;split
    .rename_i hw;simp only [hw,if_true]at h;exact .inl (Oper.wp_mono (λa' w' h'=>⟨λh0=>(by cases h0),hrec hcl' hB' _ _ h'⟩) h)
    .rename_i hw;simp only [hw]at h;exact ⟨λ_=>GrN.refl N w,hrec hcl' hB' _ _ h⟩
  match k,hTi,hk0,hR,hB,h with
  | 0,hTi,_,hR,hB,h=>
   simp only [Qm,Bool.and_eq_true]at hB;obtain ⟨⟨hr,hf⟩,hB'⟩:=hB;have hr':i∈Region.ready .any ops listed:=by simpa using hr
   simp only [Ja,hn,Xp,Yr]at h;obtain ⟨v,hy,h⟩:=h;refine Jhc (GrN N) (GrN.refl N) (λh k=>GrN.trans h k) ho (Region.noSelect_spec hsel) ?_ r.length listed a w hcl (Region.free_spec ho hf) hr' hy (hrec (hcl.step hr') hB' _ _ h);intro listed' j hcl' hri hrj w w' hx;cases hT:T j with
   | false=>exact hx hT
   | true=>
    obtain ⟨_,oj,hoj,_⟩:=mem_ready.1 hrj;have h1:=Jwk hcl' F j i oj hoj (Jwj hoj hrj) (hR j hT (Array.getElem?_eq_some_iff.1 hoj).1 _ (mC ..) rfl);have h0:=(mem_ready.1 hri).1;rcases Nat.lt_or_ge i listed'.size with h'|h'
    .simp [h']at h0 h1;rw [h0]at h1;cases h1
    .simp [Array.getElem?_eq_none h']at h1
  | 1,hTi,_,hR,hB,h=>
   simp only [Qm,Bool.and_eq_true,beq_iff_eq]at hB;simp only [Ja,hn,Xp,Yr]at h;refine one hB.2 hB.1 (λ_=>h) (λht=>?_);rw [<-hTi]at ht;cases ht
  | 2,hTi,_,hR,hB,h=>
   simp only [Qm,Bool.and_eq_true,beq_iff_eq]at hB;simp only [Ja,hn,Xp,Yr]at h;refine one hB.2 hB.1 (λht=>?_) (λ_=>h);rw [<-hTi]at ht;cases ht
  | k+3,_,hk0,_,_,_=>simp at hk0
def Jbp(ops:Array Oper)(F:Nat)(s:List (Nat×Nat)): Bool :=
 Region.noSelect ops && (s.length == ops.size) && (s.all λp=>Nat.ble p.1 2) && (s.all λp=>Nat.blt p.2 ops.size) && (s.all λp=>(p.1 == 2) == Ul s p.2) &&
 ((List.range ops.size).all λt=>!Ul s t || s.all λp=>p.1 != 0 || Up ops F t p.2) && Qm ops s (Array.replicate ops.size false)
end
section
variable {N:Nat->Prop} {P:Program} {n:Nat} {al al':AL} {w:World} {Q:Exit->Act->World->Prop} {ops:Array Oper} {rest:List (Nat×Oper)} {drest:List (Nat×Oper)}
variable {d ty:Nat} {op:Op} {pos:String} {aft:Array Edge} {tt:TT}
def WN(N:Nat->Prop)(P:Program)(n:Nat)(ops:Array Oper)(Q:Exit->Act->World->Prop)(l:List (Nat×Oper))(al:AL)(w:World): Prop:=∀ a,Fr n al a->Xp N P ops Q l a w
theorem Qzw{id:Nat}{l:List Oper}(N:Nat->Prop)(F:Nat)(s:List (Nat×Nat))(hm:P.follows .mixedOrders=true)(hB:Jbp l.toArray F s=true)(h:WN N P n l.toArray Q (Ja l s) al w.drew): WC P n (.region id l.toArray true) Q al w:=by
 intro a U;simp only [Jbp,Bool.and_eq_true,beq_iff_eq,List.all_eq_true,List.mem_range,Bool.or_eq_true,Bool.not_eq_true',bne_iff_ne]at hB;obtain ⟨⟨⟨⟨⟨⟨h1,O⟩,h3⟩,h4⟩,h5⟩,h6⟩,Z⟩:=hB;refine wp_region_any hm ?_;rw [<-O];refine Jyq (T:=Ul s) _ _ _ _ (Jhb (N:=N) h1 F s _ a _ ?_ (λp u=>h3 p u) (λp u=>?_) (λp u=>?_) (λt ht G p u h0=>?_) (by rw [O];exact Z) ?_)
 .intro k o ho J e he hb;exfalso
  simp only [Array.getD_eq_getD_getElem?,Array.getElem?_replicate]at J;split at J<;>cases J
 .have:=h4 p u;have C:p.2+1<=l.toArray.size:=by simpa [Nat.blt] using this
  omega
 .simpa using h5 p u
 .rcases h6 t G with C|C
  .rw [ht]at C;cases C
  .rcases C p u with h''|h''
   .exact absurd h0 h''
   .exact h''
 .have:=h a U;simpa using this
theorem drN[h:Tab P tt]{id:Nat}{l:List Oper}(N:Nat->Prop)(F:Nat)(s:List (Nat×Nat))(hB:Jbp l.toArray F s=true)(k:WN N P n l.toArray Q (Ja l s) al w.drew): WC P n (.region id l.toArray true) Q al w:=Qzw N F s h.mixed hB k
def YldN(N:Nat->Prop)(P:Program)(n:Nat)(al:AL)(w:World)(o:Oper)(v:Value): Prop:=∀ w',GrN N w w'->∀ a,Fr n al a->(execOp a.eval o).run P w'=.ok (.value v) w'
theorem nnil_(h:QX n Q .normal al w): WN N P n ops Q [] al w:=λa o=>h a o
theorem ny_{v:Value}(hy:YldN N P n al w ⟨some d,op,ty,pos,aft,none⟩ v)(hd:Nat.blt d n=true)(k:WN N P n ops Q rest ((d,v)::al) w): WN N P n ops Q ((0,⟨some d,op,ty,pos,aft,none⟩)::rest) al w:=λa u=>by
 have o:d<n:=by (have:d+1<=n:=by simpa [Nat.blt] using hd);(omega)
 exact ⟨v,.inl ⟨rfl,λw' C=>hy w' C a u⟩,k _ (u.put o v)⟩
theorem np_{tt:TT}(hT:TOk P tt){v:Value}(hv:pv tt (ev al) op=some v)(hd:Nat.blt d n=true)(k:WN N P n ops Q rest ((d,v)::al) w): WN N P n ops Q ((0,⟨some d,op,ty,pos,aft,none⟩)::rest) al w :=
 ny_ (λw' _ a C=>Gb w' hT (λx u o=>C.ev o) hv) hd k
theorem npn_{tt:TT}(hT:TOk P tt){v:Value}(hv:pv tt (ev al) op=some v)(k:WN N P n ops Q rest al w): WN N P n ops Q ((0,⟨none,op,ty,pos,aft,none⟩)::rest) al w:=λa C=>
 ⟨v,.inl ⟨rfl,λw' o=>Gb w' hT (λx u o=>C.ev o) hv⟩,k _ C⟩
theorem Qdf{kd:Nat}{dst:Option Nat}{j s:Nat}{b:Bool}(hj:Zg ops j=some s)(hs:lk al s=some (.bool b))(k:WN N P n ops Q ((kd,⟨dst,op,ty,pos,aft,none⟩)::rest) al w):
  WN N P n ops Q ((kd,⟨dst,op,ty,pos,aft,some (j,b)⟩)::rest) al w:=λa G=>by
 have h:=k a G;have J:=Jjb (ops:=ops) G hj hs;have C:Region.wanted (⟨dst,op,ty,pos,aft,none⟩:Oper) (yielded ops a.tmps)=true:=rfl;have u:Region.wanted (⟨dst,op,ty,pos,aft,some (j,b)⟩:Oper) (yielded ops a.tmps)=true:=by simp [Region.wanted,J]
 unfold Xp Yr at h ⊢;match kd,h with
 | 0,h=>
  obtain ⟨v,o,O⟩:=h;refine ⟨v,?_,O⟩;rcases o with o|o
  .exact .inl ⟨u,o.2⟩
  .exact absurd o.1 (by rw [C];simp)
 | 1,h=>simp only [C,if_true]at h;simp only [u,if_true];exact h
 | k+2,h=>simp only [C,if_true]at h;simp only [u,if_true];exact h
theorem Qcz{kd:Nat}{j s:Nat}{b c:Bool}(hj:Zg ops j=some s)(hs:lk al s=some (.bool b))(hne:(b == c)=false)(hd:Nat.blt d n=true)(k:WN N P n ops Q rest ((d,undef)::al) w):
  WN N P n ops Q ((kd,⟨some d,op,ty,pos,aft,some (j,c)⟩)::rest) al w:=λa G=>by
 have o:d<n:=by (have:d+1<=n:=by simpa [Nat.blt] using hd);(omega)
 have J:=Jjb (ops:=ops) G hj hs;have C:Region.wanted (⟨some d,op,ty,pos,aft,some (j,c)⟩:Oper) (yielded ops a.tmps)=false:=by
  simp [Region.wanted,J];simpa using hne
 have u:=k _ (G.put o undef);unfold Xp Yr;match kd with
 | 0=>exact ⟨undef,.inr ⟨C,rfl⟩,u⟩
 | 1=>simp only [C];exact u
 | m+2=>simp only [C];exact u
theorem ν9{kd:Nat}{j s:Nat}{c:Bool}(k:WN N P n ops Q drest ((d,undef)::al) w)(hj:Zg ops j=some s:=by rfl)(hs:lk al s=some undef:=by rfl)(hd:Nat.blt d n=true:=by rfl):
  WN N P n ops Q ((kd,⟨some d,op,ty,pos,aft,some (j,c)⟩)::drest) al w:=λa G=>by
 have o:d<n:=by (have:d+1<=n:=by simpa [Nat.blt] using hd);(omega)
 have J:=Jyl (ops:=ops) G hj hs;have C:Region.wanted (⟨some d,op,ty,pos,aft,some (j,c)⟩:Oper) (yielded ops a.tmps)=false:=by simp [Region.wanted,J]
 have u:=k _ (G.put o undef);unfold Xp Yr;match kd with
 | 0=>exact ⟨undef,.inr ⟨C,rfl⟩,u⟩
 | 1=>simp only [C];exact u
 | m+2=>simp only [C];exact u
theorem ν4[h:Tab P tt]{v:Value}(k:WN N P n ops Q drest ((d,v)::al) w)(hv:pv tt (ev al) op=some v:=by rfl)(hd:Nat.blt d n=true:=by rfl): WN N P n ops Q ((0,⟨some d,op,ty,pos,aft,none⟩)::drest) al w:=np_ h.ok hv hd k
theorem ν5(h:QX n Q .normal al w): WN N P n ops Q [] al w:=nnil_ h
theorem ν6{kd:Nat}{dst:Option Nat}{j s:Nat}{b:Bool}(k:WN N P n ops Q ((kd,⟨dst,op,ty,pos,aft,none⟩)::drest) al w)(hj:Zg ops j=some s:=by rfl)(hs:lk al s=some (.bool b):=by rfl): WN N P n ops Q ((kd,⟨dst,op,ty,pos,aft,some (j,b)⟩)::drest) al w:=Qdf hj hs k
theorem ν7{kd:Nat}{j s:Nat}{b c:Bool}(k:WN N P n ops Q drest ((d,undef)::al) w)(hj:Zg ops j=some s:=by rfl)(hs:lk al s=some (.bool b):=by rfl)(hne:(b == c)=false:=by rfl)(hd:Nat.blt d n=true:=by rfl):
  WN N P n ops Q ((kd,⟨some d,op,ty,pos,aft,some (j,c)⟩)::drest) al w:=Qcz hj hs hne hd k
theorem ν8[h:Tab P tt]{v:Value}(k:WN N P n ops Q drest al w)(hv:pv tt (ev al) op=some v:=by rfl): WN N P n ops Q ((0,⟨none,op,ty,pos,aft,none⟩)::drest) al w:=npn_ h.ok hv k
theorem nadd_{x y:Operand}{t yt:TypeId}{a b:Int}(hx:ev al x=some (.int .i64 a))(hy:ev al y=some (.int .i64 b))(hc:-9223372036854775808<=a+b/\a+b<=9223372036854775807)(hd:Nat.blt d n=true)(k:WN N P n ops Q rest ((d,.int .i64 (a+b))::al) w): WN N P n ops Q ((0,⟨some d,.binOp .add t x y yt,ty,pos,aft,none⟩)::rest) al w:=by
 have e:IntKind.i64.wrap (a+b)=a+b:=by rw [IntKind.wrap_i64];omega
 exact np_ (tt:=[]) trivial (v:=.int .i64 (a+b)) (by simp only [pv,hx,hy,bop,if_true,e]) hd k
theorem nsub_{x y:Operand}{t yt:TypeId}{a b:Int}(hx:ev al x=some (.int .i64 a))(hy:ev al y=some (.int .i64 b))(hc:-9223372036854775808<=a-b/\a-b<=9223372036854775807)(hd:Nat.blt d n=true)(k:WN N P n ops Q rest ((d,.int .i64 (a-b))::al) w): WN N P n ops Q ((0,⟨some d,.binOp .sub t x y yt,ty,pos,aft,none⟩)::rest) al w:=by
 have e:IntKind.i64.wrap (a-b)=a-b:=by rw [IntKind.wrap_i64];omega
 exact np_ (tt:=[]) trivial (v:=.int .i64 (a-b)) (by simp only [pv,hx,hy,bop,if_true,e]) hd k
theorem ν1{x y:Operand}{t yt:TypeId}{a b:Int}(k:WN N P n ops Q drest ((d,.int .i64 (a+b))::al) w)(hx:ev al x=some (.int .i64 a):=by rfl)(hy:ev al y=some (.int .i64 b):=by rfl)(hd:Nat.blt d n=true:=by rfl)(hc:-9223372036854775808<=a+b/\a+b<=9223372036854775807:=by omega):
  WN N P n ops Q ((0,⟨some d,.binOp .add t x y yt,ty,pos,aft,none⟩)::drest) al w:=nadd_ hx hy hc hd k
theorem ν2{x y:Operand}{t yt:TypeId}{a b:Int}(k:WN N P n ops Q drest ((d,.int .i64 (a-b))::al) w)(hx:ev al x=some (.int .i64 a):=by rfl)(hy:ev al y=some (.int .i64 b):=by rfl)(hd:Nat.blt d n=true:=by rfl)(hc:-9223372036854775808<=a-b/\a-b<=9223372036854775807:=by omega):
  WN N P n ops Q ((0,⟨some d,.binOp .sub t x y yt,ty,pos,aft,none⟩)::drest) al w:=nsub_ hx hy hc hd k
theorem nload(hT:TOk P tt){x:Operand}{t:Nat}{k:TK}{p:Addr}{v:Value}(ht:tk tt t=some k)(hk:Vy k.desc=true)(hx:ev al x=some (.pointer (some p)))(hc:∀ w',GrN N w w'->w'.cell? p=some v)(hd:Nat.blt d n=true)(kk:WN N P n ops Q rest ((d,v)::al) w): WN N P n ops Q ((0,⟨some d,.load t x,ty,pos,aft,none⟩)::rest) al w :=
 ny_ (λw' o a u=>by simp [execOp,u.ev hx,Instr.loadAt,Instr.sureAddr,Jmt (w:=w') hT ht hk (hc w' o)]) hd kk
theorem Qdc(hT:TOk P tt){x:Operand}{t:Nat}{k:TK}{p:Addr}{cs:List Value}(ht:tk tt t=some k)(hk:k.desc=.invalid)(hl:k.size=cs.length)(hx:ev al x=some (.pointer (some p)))(hc:∀ w',GrN N w w'->∀ j u,cs[j]?=some u->w'.cell? (p.add j)=some u)(hd:Nat.blt d n=true)(kk:WN N P n ops Q rest ((d,.agg cs.toArray)::al) w): WN N P n ops Q ((0,⟨some d,.load t x,ty,pos,aft,none⟩)::rest) al w :=
 ny_ (λw' o a C=>by simp [execOp,C.ev hx,Instr.loadAt,Instr.sureAddr,Iz (w:=w') hT ht hk hl (hc w' o)]) hd kk
theorem Jps(hT:TOk P tt){x i:Operand}{t e sz:Nat}{k:TK}{A:Option Addr}{m c:Nat}{kd:IntKind}{z:Int}{cs:List Value}(q:Nat)(j:Nat)(ht:tk tt t=some k)(hk:k.desc=.slice e)(hz:k.esz=sz)(hx:ev al x=some (.slice A m c))(hi:ev al i=some (.int kd z))(hr:Rd w sz A m cs)(hj:z=(j:Int))(hlt:j<m)(h0:0<sz)(hq:j*sz=q)(hd:Nat.blt d n=true)(kk:WN N P n ops Q rest ((d,.pointer (some (adr A q)))::al) w): WN N P n ops Q ((0,⟨some d,.indexAddr t x i,ty,pos,aft,none⟩)::rest) al w:=by
 obtain ⟨u,C⟩:=Kx hT ht hk hz;obtain ⟨O,rfl,J⟩:=hr.isome om h0;subst hj;subst hq;refine ny_ (λw' G a o=>?_) hd kk;simp [execOp,o.ev hx,o.ev hi,Instr.indexAt,asIntOf,run_underlying u,Ze w' C,adr];intro h;omega
theorem Qdd(hT:TOk P tt){x i:Operand}{t e:Nat}{k:TK}{A:Option Addr}{m c:Nat}{kd:IntKind}{z:Int}{cs:List Value}(j:Nat)(ht:tk tt t=some k)(hk:k.desc=.slice e)(hz:k.esz=1)(hx:ev al x=some (.slice A m c))(hi:ev al i=some (.int kd z))(hr:Rd w 1 A m cs)(hj:z=(j:Int))(hlt:j<m)(hd:Nat.blt d n=true)(kk:WN N P n ops Q rest ((d,.pointer (some (adr A j)))::al) w): WN N P n ops Q ((0,⟨some d,.indexAddr t x i,ty,pos,aft,none⟩)::rest) al w :=
 Jps hT j j ht hk hz hx hi hr hj hlt om om hd kk
theorem nld[h:Tab P tt]{x:Operand}{t:Nat}{k:TK}{p:Addr}{v:Value}(hc:∀ w',GrN N w w'->w'.cell? p=some v)(kk:WN N P n ops Q drest ((d,v)::al) w)(ht:tk tt t=some k:=by rfl)(hk:Vy k.desc=true:=by rfl)(hx:ev al x=some (.pointer (some p)):=by rfl)(hd:Nat.blt d n=true:=by rfl): WN N P n ops Q ((0,⟨some d,.load t x,ty,pos,aft,none⟩)::drest) al w:=nload h.ok ht hk hx hc hd kk
theorem Xd[h:Tab P tt]{x:Operand}{t:Nat}{k:TK}{p:Addr}{cs:List Value}(hc:∀ w',GrN N w w'->∀ j u,cs[j]?=some u->w'.cell? (p.add j)=some u)(kk:WN N P n ops Q drest ((d,.agg cs.toArray)::al) w)(ht:tk tt t=some k:=by rfl)(hk:k.desc=.invalid:=by rfl)(hl:k.size=cs.length:=by rfl)(hx:ev al x=some (.pointer (some p)):=by rfl)(hd:Nat.blt d n=true:=by rfl): WN N P n ops Q ((0,⟨some d,.load t x,ty,pos,aft,none⟩)::drest) al w:=Qdc h.ok ht hk hl hx hc hd kk
theorem nix[h:Tab P tt]{x i:Operand}{t e:Nat}{k:TK}{A:Option Addr}{m c:Nat}{kd:IntKind}{z:Int}{cs:List Value}(j:Nat)(hr:Rd w 1 A m cs)(hlt:j<m)(kk:WN N P n ops Q drest ((d,.pointer (some (adr A j)))::al) w)(ht:tk tt t=some k:=by rfl)(hk:k.desc=.slice e:=by rfl)(hz:k.esz=1:=by rfl)(hx:ev al x=some (.slice A m c):=by rfl)(hi:ev al i=some (.int kd z):=by rfl)(hj:z=(j:Int):=by first|rfl|omega)(hd:Nat.blt d n=true:=by rfl):
  WN N P n ops Q ((0,⟨some d,.indexAddr t x i,ty,pos,aft,none⟩)::drest) al w:=Qdd h.ok j ht hk hz hx hi hr hj hlt hd kk
theorem Vt[h:Tab P tt]{x i:Operand}{t e:Nat}{k:TK}{A:Option Addr}{m c:Nat}{kd:IntKind}{z:Int}{cs:List Value}(sz j:Nat)(hr:Rd w sz A m cs)(hlt:j<m)(kk:WN N P n ops Q drest ((d,.pointer (some (adr A (j*sz))))::al) w)(ht:tk tt t=some k:=by rfl)(hk:k.desc=.slice e:=by rfl)(hz:k.esz=sz:=by rfl)(hx:ev al x=some (.slice A m c):=by rfl)(hi:ev al i=some (.int kd z):=by rfl)(hj:z=(j:Int):=by first|rfl|omega)(h0:0<sz:=by omega)(hd:Nat.blt d n=true:=by rfl):
  WN N P n ops Q ((0,⟨some d,.indexAddr t x i,ty,pos,aft,none⟩)::drest) al w:=Jps h.ok (j*sz) j ht hk hz hx hi hr hj hlt h0 rfl hd kk
def toN(N:Nat->Prop)(P:Program)(ops:Array Oper)(Q:Exit->Act->World->Prop)(w0:World)(rest:List (Nat×Oper)): Exit->Act->World->Prop
 | .normal,a,w=>GrN N w0 w/\Xp N P ops Q rest a w
 | _,_,_=>False
theorem Je{w0:World}(hx:GrN N w0 w)(h:WN N P n ops Q drest al w): QX n (toN N P ops Q w0 drest) .normal al w:=λa o=>⟨hx,h a o⟩
theorem nop{o:Oper}(h:WL P n ops (toN N P ops Q w drest) [o] al w): WN N P n ops Q ((1,o)::drest) al w:=λa J=>by
 have u:=h a J;unfold wpList at u;unfold Xp Yr;simp only;have C:¬ LetsOut (toN N P ops Q w drest):=by rintro ⟨a,w,h⟩;exact h
 split
 .rename_i hw;simp only [hw,if_true]at u;rcases u with u|⟨_,u⟩
  .refine Oper.wp_mono (K:=wpList P ops (toN N P ops Q w drest) []) (λU w' O=>O) ?_;unfold Oper.wp at u ⊢;exact Yq (Q:=toN N P ops Q w drest) (λc a w G=>G.elim) (λG=>absurd G C) u
  .exact absurd u C
 .rename_i hw;simp only [hw]at u;exact u.2
def toT(N:Nat->Prop)(P:Program)(ops:Array Oper)(Q:Exit->Act->World->Prop)(rest:List (Nat×Oper)): Exit->Act->World->Prop
 | .normal,a,w=>Xp N P ops Q rest a w
 | _,_,_=>False
theorem Us(h:WN N P n ops Q drest al w): QX n (toT N P ops Q drest) .normal al w:=h
theorem Xv{o:Oper}(h:WL P n ops (toT N P ops Q drest) [o] al w): WN N P n ops Q ((2,o)::drest) al w:=λa J=>by
 have u:=h a J;unfold wpList at u;unfold Xp Yr;simp only;have C:¬ LetsOut (toT N P ops Q drest):=by rintro ⟨a,w,h⟩;exact h
 split
 .rename_i hw;simp only [hw,if_true]at u;rcases u with u|⟨_,u⟩
  .refine Oper.wp_mono (K:=Xp N P ops Q drest) (λU w' O=>O) ?_;unfold Oper.wp at u ⊢;exact Yq (Q:=toT N P ops Q drest) (λc a w G=>G.elim) (λG=>absurd G C) u
  .exact absurd u C
 .rename_i hw;simp only [hw]at u;exact u
theorem Jm{p:Addr}{v:Value}(hc:w.cell? p=some v)(hn:¬ N p.block): ∀ w',GrN N w w'->w'.cell? p=some v:=λw' o=>by
 rw [<-hc];exact World.cell?_of_block (o.block _ (World.block_lt_of_cell? w p hc) hn)
end
end Go.Wk
namespace Go.Wk
theorem ρn{p q:Prop}(h:p)(t:Hold p->q:=by intro h;(repeat first|refine ν1 ?_|refine ν2 ?_|refine ν4 ?_|refine ν5 ?_|refine ν6 ?_|refine ν7 ?_|refine ν9 ?_|refine ν8 ?_|refine χ1 ?_|refine χ2 ?_|refine χ3 ?_|refine χ4 ?_|refine χ5 ?_|refine χ6 ?_|refine χ7 ?_);exact h.of): q:=t ⟨h⟩
end Go.Wk
