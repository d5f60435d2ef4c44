/- Part 6. -/
import Derived.Test.YtebcagekopgdhaaGreatDoorG05
import Derived.Laws.CopyRow
set_option linter.unusedVariables false
set_option maxRecDepth 100000
set_option maxHeartbeats 40000000
namespace Go.Wk
open Go.RowKit
variable {c' news xs:List Value}{d i k l m m' n ty:Nat}{α:Type}{v v' z:Value}
def upd(f:Nat->α)(i:Nat)(x:α): Nat->α:=λk=>if k=i then x else f k
theorem Jh(f:Nat->α)(i:Nat)(x:α): upd f i x i=x:=by simp [upd]
theorem Jc(f:Nat->α)(x:α)(h:k≠i): upd f i x k=f k:=by simp [upd,h]
structure Fam(w:World)(base e sz n:Nat)(v:Nat->Value)(m:Nat->Nat)(c:Nat->List Value): Prop where
 own:∀ i,i<n->w.ownsRow base e sz (v i) (m i) (c i)
 dis:∀ i j g,i<n->j<n->i≠j->(v i).ownBlock=some g->(v j).ownBlock≠some g
section
variable {w w':World} {base e sz n:Nat} {v:Nat->Value} {m:Nat->Nat} {c:Nat->List Value}
theorem Fam.ext(h:Fam w base e sz n v m c)(hx:Ext w w'): Fam w' base e sz n v m c:=⟨λi hi=>Jk (h.own i hi) hx,h.dis⟩
theorem Fam.gr{N:Nat->Prop}(h:Fam w base e sz n v m c)(hg:GrN N w w')(hN:∀ i g,i<n->(v i).ownBlock=some g->¬ N g): Fam w' base e sz n v m c:=⟨λi hi=>Js (h.own i hi) hg (hN i · hi),h.dis⟩
theorem Fam.other{base' e' sz':Nat}(h:Fam w base e sz n v m c)(h':w.ownsRow base' e' sz' v' m' xs)(hg:w.grownBy w' v'.ownBlock)(hne:Nat.beq e e'=false): Fam w' base e sz n v m c :=
 ⟨λi hi=>Xu (h.own i hi) h' hg hne,h.dis⟩
theorem Fam.lt(h:Fam w base e sz n v m c){g:Nat}(hi:i<n)(hg:(v i).ownBlock=some g): base<=g/\g<w.heap.size:=by
 obtain ⟨_,_,_,_,o⟩:=Jy (h.own i hi);exact o g hg
theorem Fam.upd(h:Fam w base e sz n v m c)(hi:i<n)(ho:w'.ownsRow base e sz v' m' c')(hg:w.grownBy w' (v i).ownBlock)(hb:∀ g,v'.ownBlock=some g->(v i).ownBlock=some g∨w.heap.size<=g):
  Fam w' base e sz n (upd v i v') (upd m i m') (upd c i c'):=by
 refine ⟨λk u=>?_,λk j g u J o G C=>?_⟩
 .by_cases e:k=i
  .subst e;rw [Jh,Jh,Jh];exact ho
  .rw [Jc _ _ e,Jc _ _ e,Jc _ _ e];refine (h.own k u).kept hg ?_;cases hb2:(v k).ownBlock with
   | none=>exact .inl rfl
   | some g=>exact .inr (λO=>h.dis k i g u hi e hb2 O.symm)
 .by_cases ek:k=i<;>by_cases ej:j=i
  .omega
  .subst ek;rw [Jh]at G;rw [Jc _ _ ej]at C;rcases hb g G with h'|h'
   .exact h.dis k j g u J o h' C
   .have:=(h.lt J C).2;omega
  .subst ej;rw [Jh]at C;rw [Jc _ _ ek]at G;rcases hb g C with h'|h'
   .exact h.dis k j g u J o G h'
   .have:=(h.lt u G).2;omega
  .rw [Jc _ _ ek]at G;rw [Jc _ _ ej]at C;exact h.dis k j g u J o G C
end
def Zy(d:Nat)(f g:Nat->Value): List Value:=(List.range d).flatMap λl=>[f l,g l]
theorem Ij(d:Nat)(f g:Nat->Value): Zy (d+1) f g=Zy d f g++[f d,g d]:=by simp [Zy,List.range_succ,List.flatMap_append]
theorem Zq(d:Nat)(f g:Nat->Value): (Zy d f g).length=d*2:=by
 induction d with
 | zero=>rfl
 | succ d ih=>rw [Ij,List.length_append,ih];simp;omega
theorem Gu(d:Nat)(f g:Nat->Value)(h:l<d): (Zy d f g)[l*2]?=some (f l)/\(Zy d f g)[l*2+1]?=some (g l):=by
 induction d with
 | zero=>omega
 | succ d ih=>
  rw [Ij];by_cases e:l=d
  .subst e;rw [List.getElem?_append_right (by rw [Zq];omega),List.getElem?_append_right (by rw [Zq];omega),Zq];rw [Nat.sub_self,Nat.add_sub_cancel_left];exact ⟨rfl,rfl⟩
  .rw [List.getElem?_append_left (by rw [Zq];omega),List.getElem?_append_left (by rw [Zq];omega)];exact ih om
theorem Qqq{f g f' g':Nat->Value}(h1:∀ l,l<d->f l=f' l)(h2:∀ l,l<d->g l=g' l): Zy d f g=Zy d f' g':=by
 induction d with
 | zero=>rfl
 | succ d ih=>rw [Ij,Ij,ih (λl o=>h1 l om) (λl o=>h2 l om),h1 d om,h2 d om]
theorem Qqp(d:Nat)(f g:Nat->Value)(h:l<d)(u:Value): (Zy d f g).set (l*2) u=Zy d (upd f l u) g:=by
 induction d with
 | zero=>omega
 | succ d ih=>
  rw [Ij,Ij];by_cases e:l=d
  .subst e;rw [List.set_append_right _ _ (by rw [Zq];omega),Zq,Nat.sub_self,List.set_cons_zero,Jh];congr 1
   exact Qqq (λk o=>(Jc _ _ om).symm) (λk o=>rfl)
  .rw [List.set_append_left _ _ (by rw [Zq];omega),ih om,Jc _ _ om]
theorem Qqn(d:Nat)(f g:Nat->Value)(h:l<d)(u:Value): (Zy d f g).set (l*2+1) u=Zy d f (upd g l u):=by
 induction d with
 | zero=>omega
 | succ d ih=>
  rw [Ij,Ij];by_cases e:l=d
  .subst e;rw [List.set_append_right _ _ (by rw [Zq];omega),Zq,Nat.add_sub_cancel_left,List.set_cons_succ,List.set_cons_zero,Jh];congr 1
   exact Qqq (λk o=>rfl) (λk o=>(Jc _ _ om).symm)
  .rw [List.set_append_left _ _ (by rw [Zq];omega),ih om,Jc _ _ om]
theorem apb{P:Program}{al:AL}{w:World}{Q:Exit->Act->World->Prop}{ops:Array Oper}{rest:List Oper}{pos:String}{aft:Array Edge}{t e sz bytes base:Nat}(hE:ElT P t e sz bytes z){x y:Operand}{A':Option Addr}{c':Nat}(ha:w.ownsRow base e sz v m xs)(hr:Rd w sz A' m' news)(h1:∀ u∈news,u.oneCell'=true)(h63:m+m'<=maxLen)(hby:(m+m')*bytes<=140737488355328)(hbase:base<=w.heap.size)(kk:∀ v' w',w'.ownsRow base e sz v' (m+m') (xs++news)->w.grownBy w' v.ownBlock->(∀ g,v'.ownBlock=some g->v.ownBlock=some g∨w.heap.size<=g)->WL P n ops Q rest ((d,v')::al) w')(hx:ev al x=some v:=by rfl)(hy:ev al y=some (.slice A' m' c'):=by rfl)(hd:Nat.blt d n=true:=by rfl):
  WL P n ops Q (⟨some d,.call { callee:=.builtin .append,args:=#[x,y],argTypes:=#[t,t] },ty,pos,aft,none⟩::rest) al w:=by
 obtain ⟨v',w',o,Z,U,O,J,G⟩:=Jrc hE base ty (.inl ha) (c':=c') hr h1 h63 hby hbase;refine wop hd (λa C=>?_) (kk v' w' (O ha) (J.elim (·.2) (λh=>Zc h _)) G)
 simp [execOp,resolve,invoke,builtin,C.ev hx,C.ev hy,o]
end Go.Wk
namespace Go.Wk
open Go.RowKit
variable {p:Addr}{b c:Bool}{a z:Int}{kd:IntKind}{l:List Oper}{cs:List Value}{e id j m s t:Nat}{o oi:Oper}{i x y:Operand}{A:Option Addr}{dst:Option Nat}{k:TK}{yt:TypeId}{v:Value}
section
variable {N:Nat->Prop} {P:Program} {ops:Array Oper} {Q:Exit->Act->World->Prop} {T:Nat->Bool}
def Uj(N:Nat->Prop)(P:Program)(ops:Array Oper)(Q:Exit->Act->World->Prop)(k:Nat)(o:Oper)(K:Act->World->Prop)(a:Act)(w:World): Prop :=
 match k with
 | 0=>∃ v,YieldsIf P ops (GrN N w) o v a/\K (a.put o.dst v) w
 | 1=>if Region.wanted o (yielded ops a.tmps) then o.wp P a w (λa' w'=>GrN N w w'/\K a' w') (QF Q) else K (a.put o.dst undef) w
 | _=>if Region.wanted o (yielded ops a.tmps) then o.wp P a w K (QF Q) else K (a.put o.dst undef) w
def Xs(N:Nat->Prop)(P:Program)(ops:Array Oper)(Q:Exit->Act->World->Prop): List (Nat×Oper)->Act->World->Prop
 | [],a,w=>Q .normal a w
 | p::r,a,w=>Uj N P ops Q p.1 p.2 (Xs N P ops Q r) a w
def Yf(N:Nat->Prop)(P:Program)(ops:Array Oper)(Q:Exit->Act->World->Prop)(T:Nat->Bool): Nat->Array Bool->Act->World->Prop
 | 0,listed,a,w=>Region.ready .any ops listed=[]/\Q .normal a w
 | fuel+1,listed,a,w=>
  (Region.ready .any ops listed=[]->Q .normal a w) /\
   ∀ i∈Region.ready .any ops listed,wpOp P ops (QF Q) i (λa' w'=>(T i=false->GrN N w w')/\Yf N P ops Q T fuel (listed.setIfInBounds i true) a' w') a w
theorem Jck: ∀ (fuel:Nat) (listed:Array Bool) (a:Act) (w:World),Yf N P ops Q T fuel listed a w->wpAny P .any ops Q fuel listed a w
 | 0,_,_,_,h=>h
 | fuel+1,_,_,_,h=>⟨h.1,λi hi=>wpOp_mono (λa' w' h'=>Jck fuel _ a' w' h'.2) (Jqb (h.2 i hi))⟩
theorem Jmg(S:World->World->Prop)(hS0:∀ w,S w w)(hSt:∀ {a b c},S a b->S b c->S a c){i:Nat}(hi:ops[i]?=some oi)(hsel:∀ (j:Nat) (o:Oper) cs b,ops[j]?=some o->o.op≠.select cs b)(hSx:∀ listed j,Closed ops listed->i∈Region.ready .any ops listed->j∈Region.ready .any ops listed->∀ w w',(T j=false->GrN N w w')->S w w'):
  ∀ (fuel:Nat) (listed:Array Bool) (a:Act) (w:World),Closed ops listed ->
   (∀ j oj,ops[j]?=some oj->j≠i->listed.getD j true=false->(∀ e∈oj.after,Region.binds .any e=true->e.on≠i)->oi.apart ops oj=true) ->
   i∈Region.ready .any ops listed->YieldsIf P ops (S w) oi v a ->
   Yf N P ops Q T fuel (listed.setIfInBounds i true) (a.put oi.dst v) w->Yf N P ops Q T (fuel+1) listed a w:=by
 intro fuel;induction fuel with
 | zero=>
  intro listed a w U _ G hy H;refine ⟨λh=>(by rw [h]at G;cases G),λj hj=>?_⟩;by_cases hji:j=i
  .subst hji;exact hy.wpOp hi (hS0 w) ⟨λ_=>GrN.refl N w,H⟩
  .have:=ready_mono hj hji;rw [H.1]at this;cases this
 | succ fuel ih=>
  intro listed a w U u G hy H;refine ⟨λh=>(by rw [h]at G;cases G),λj hj=>?_⟩;by_cases hji:j=i
  .subst hji;exact hy.wpOp hi (hS0 w) ⟨λ_=>GrN.refl N w,H⟩
  .obtain ⟨J,oj,O,a3⟩:=mem_ready.1 hj;have Z:=H.2 j (ready_mono hj hji);have a2:∀ e∈oj.after,Region.binds .any e=true->e.on≠i:=λe he hb a7=>by
    have Z:=a3 e he hb;have h0:=(mem_ready.1 G).1;rw [a7]at Z;rcases Nat.lt_or_ge i listed.size with h'|h'
    .simp [h']at h0 Z;rw [h0]at Z;cases Z
    .simp [Array.getElem?_eq_none h']at Z
   have h2:=wpOp_putIf O (u j oj O hji J a2) (λcs b=>hsel i oi cs b hi) (λcs b=>hsel j oj cs b O) (λc a w h=>h) hy Z;have C:∀ k ok,ops[k]?=some ok->k≠i->(listed.setIfInBounds j true).getD k true=false ->
     (∀ e∈ok.after,Region.binds .any e=true->e.on≠i)->oi.apart ops ok=true:=λk ok hk a6 a1 a5=>by
    refine u k ok hk a6 ?_ a5;by_cases hjk:j=k
    .subst hjk;exact J
    .rw [getD_set_ne true hjk]at a1;exact a1
   refine wpOp_mono (λa' w' h3=>⟨h3.2.1,ih (listed.setIfInBounds j true) a' w' (U.step hj) C (ready_mono G (Ne.symm hji)) ?_ ?_⟩) h2
   .exact h3.1.imp (λ⟨h4,h5⟩=>⟨h4,λa4 hx=>h5 a4 (hSt (hSx listed j U G hj w w' h3.2.1) hx)⟩) id
   .rw [Array.setIfInBounds_comm _ _ hji];exact h3.2.2
theorem Jmf(hsel:Region.noSelect ops=true)(F:Nat): ∀ (s:List (Nat×Nat)) (listed:Array Bool) (a:Act) (w:World),Closed ops listed->(∀ p∈s,Nat.ble p.1 2=true)->(∀ p∈s,p.2<ops.size)->(∀ p∈s,(p.1 == 2)=T p.2) ->
  (∀ t,T t=true->t<ops.size->∀ p∈s,p.1=0->Uw ops F t p.2=true)->Qs ops s listed=true->Xs N P ops Q (Jo ops.toList s) a w->Yf N P ops Q T s.length listed a w
 | [],listed,a,w,_,_,_,_,_,hB,h=>⟨by simpa [Qs] using hB,h⟩
 | (k,i)::r,listed,a,w,hcl,hk,hlt,hKT,hR,hB,h=>by
  have hi:i<ops.size:=hlt _ (mC ..);have ho:ops[i]?=some ops[i]:=Array.getElem?_eq_getElem hi;have hn:nth ops.toList i=some ops[i]:=by rw [Xz];simp [hi]
  have hTi:=hKT _ (mC ..);have hk0:=hk _ (mC ..);simp only at hTi hk0;have hrec:Closed ops (listed.setIfInBounds i true)->Qs ops r (listed.setIfInBounds i true)=true->∀ a w,Xs N P ops Q (Jo ops.toList r) a w->Yf N P ops Q T r.length (listed.setIfInBounds i true) a w:=λhc' hB' a w h'=>
   Jmf hsel F r _ a w hc' (λp hp=>hk p (List.mem_cons_of_mem _ hp)) (λp hp=>hlt p (List.mem_cons_of_mem _ hp)) (λp hp=>hKT p (List.mem_cons_of_mem _ hp)) (λt ht htl p hp=>hR t ht htl p (List.mem_cons_of_mem _ hp)) hB' h'
  have one:Qs ops r (listed.setIfInBounds i true)=true->Region.ready .any ops listed=[i]->(T i=false->if Region.wanted ops[i] (yielded ops a.tmps) then ops[i].wp P a w (λa' w'=>GrN N w w'/\Xs N P ops Q (Jo ops.toList r) a' w') (QF Q) else Xs N P ops Q (Jo ops.toList r) (a.put ops[i].dst undef) w) ->
    (T i=true->if Region.wanted ops[i] (yielded ops a.tmps) then ops[i].wp P a w (Xs N P ops Q (Jo ops.toList r)) (QF Q) else Xs N P ops Q (Jo ops.toList r) (a.put ops[i].dst undef) w)->Yf N P ops Q T (r.length+1) listed a w:=λhB' hr hf ht=>by
   have hcl':Closed ops (listed.setIfInBounds i true):=hcl.step (by rw [hr];exact List.mem_singleton.2 rfl);refine ⟨λh0=>(by rw [hr]at h0;cases h0),λj hj=>?_⟩;rw [hr]at hj;obtain rfl:j=i:=by simpa using hj
   unfold wpOp;simp only [ho];cases hT:T j with
   | false=>
    have h:=hf hT;split
    .rename_i hw;simp only [hw,if_true]at h;exact .inl (Oper.wp_mono (λa' w' h'=>⟨λ_=>h'.1,hrec hcl' hB' _ _ h'.2⟩) h)
    .rename_i hw;simp only [hw]at h;exact ⟨λ_=>GrN.refl N w,hrec hcl' hB' _ _ h⟩
   | true=>
    have h:=ht hT;split
    .rename_i hw;simp only [hw,if_true]at h;exact .inl (Oper.wp_mono (λa' w' h'=>⟨λh0=>(by cases h0),hrec hcl' hB' _ _ h'⟩) h)
    .rename_i hw;simp only [hw]at h;exact ⟨λ_=>GrN.refl N w,hrec hcl' hB' _ _ h⟩
  match k,hTi,hk0,hR,hB,h with
  | 0,hTi,_,hR,hB,h=>
   simp only [Qs,Bool.and_eq_true]at hB;obtain ⟨⟨hr,hf⟩,hB'⟩:=hB;have hr':i∈Region.ready .any ops listed:=by simpa using hr
   simp only [Jo,hn,Xs,Uj]at h;obtain ⟨v,hy,h⟩:=h;refine Jmg (GrN N) (GrN.refl N) (λh k=>GrN.trans h k) ho (Region.noSelect_spec hsel) ?_ r.length listed a w hcl (Region.free_spec ho hf) hr' hy (hrec (hcl.step hr') hB' _ _ h);intro listed' j hcl' hri hrj w w' hx;cases hT:T j with
   | false=>exact hx hT
   | true=>
    obtain ⟨_,oj,hoj,_⟩:=mem_ready.1 hrj;have h1:=Jkf hcl' F j i oj hoj (Jkd hoj hrj) (hR j hT (Array.getElem?_eq_some_iff.1 hoj).1 _ (mC ..) rfl);have h0:=(mem_ready.1 hri).1;rcases Nat.lt_or_ge i listed'.size with h'|h'
    .simp [h']at h0 h1;rw [h0]at h1;cases h1
    .simp [Array.getElem?_eq_none h']at h1
  | 1,hTi,_,hR,hB,h=>
   simp only [Qs,Bool.and_eq_true,beq_iff_eq]at hB;simp only [Jo,hn,Xs,Uj]at h;refine one hB.2 hB.1 (λ_=>h) (λht=>?_);rw [<-hTi]at ht;cases ht
  | 2,hTi,_,hR,hB,h=>
   simp only [Qs,Bool.and_eq_true,beq_iff_eq]at hB;simp only [Jo,hn,Xs,Uj]at h;refine one hB.2 hB.1 (λht=>?_) (λ_=>h);rw [<-hTi]at ht;cases ht
  | k+3,_,hk0,_,_,_=>simp at hk0
def Jdk(ops:Array Oper)(F:Nat)(s:List (Nat×Nat)): Bool :=
 Region.noSelect ops && (s.length == ops.size) && (s.all λp=>Nat.ble p.1 2) && (s.all λp=>Nat.blt p.2 ops.size) && (s.all λp=>(p.1 == 2) == Ua s p.2) &&
 ((List.range ops.size).all λt=>!Ua s t || s.all λp=>p.1 != 0 || Uw ops F t p.2) && Qs ops s (Array.replicate ops.size false)
end
section
variable {N:Nat->Prop} {P:Program} {n:Nat} {al al':AL} {w:World} {Q:Exit->Act->World->Prop} {ops:Array Oper} {rest:List (Nat×Oper)} {drest:List (Nat×Oper)}
variable {d ty:Nat} {op:Op} {pos:String} {aft:Array Edge} {tt:TT}
def WN(N:Nat->Prop)(P:Program)(n:Nat)(ops:Array Oper)(Q:Exit->Act->World->Prop)(l:List (Nat×Oper))(al:AL)(w:World): Prop:=∀ a,Fr n al a->Xs N P ops Q l a w
theorem Qvr(N:Nat->Prop)(F:Nat)(s:List (Nat×Nat))(hm:P.follows .mixedOrders=true)(hB:Jdk l.toArray F s=true)(h:WN N P n l.toArray Q (Jo l s) al w.drew): WC P n (.region id l.toArray true) Q al w:=by
 intro a U;simp only [Jdk,Bool.and_eq_true,beq_iff_eq,List.all_eq_true,List.mem_range,Bool.or_eq_true,Bool.not_eq_true',bne_iff_ne]at hB;obtain ⟨⟨⟨⟨⟨⟨h1,O⟩,h3⟩,h4⟩,h5⟩,h6⟩,Z⟩:=hB;refine wp_region_any hm ?_;rw [<-O];refine Jck (T:=Ua s) _ _ _ _ (Jmf (N:=N) h1 F s _ a _ ?_ (λp u=>h3 p u) (λp u=>?_) (λp u=>?_) (λt ht G p u h0=>?_) (by rw [O];exact Z) ?_)
 .intro k o ho J e he hb;exfalso
  simp only [Array.getD_eq_getD_getElem?,Array.getElem?_replicate]at J;split at J<;>cases J
 .have:=h4 p u;have C:p.2+1<=l.toArray.size:=by simpa [Nat.blt] using this
  omega
 .simpa using h5 p u
 .rcases h6 t G with C|C
  .rw [ht]at C;cases C
  .rcases C p u with h''|h''
   .exact absurd h0 h''
   .exact h''
 .have:=h a U;simpa using this
theorem drN[h:Tab P tt](N:Nat->Prop)(F:Nat)(s:List (Nat×Nat))(hB:Jdk l.toArray F s=true)(k:WN N P n l.toArray Q (Jo l s) al w.drew): WC P n (.region id l.toArray true) Q al w:=Qvr N F s h.mixed hB k
def YldN(N:Nat->Prop)(P:Program)(n:Nat)(al:AL)(w:World)(o:Oper)(v:Value): Prop:=∀ w',GrN N w w'->∀ a,Fr n al a->(execOp a.eval o).run P w'=.ok (.value v) w'
theorem nnil_(h:QX n Q .normal al w): WN N P n ops Q [] al w:=λa o=>h a o
theorem ny_(hy:YldN N P n al w ⟨some d,op,ty,pos,aft,none⟩ v)(hd:Nat.blt d n=true)(k:WN N P n ops Q rest ((d,v)::al) w): WN N P n ops Q ((0,⟨some d,op,ty,pos,aft,none⟩)::rest) al w:=λa u=>by
 have o:d<n:=by (have:d+1<=n:=by simpa [Nat.blt] using hd);(omega)
 exact ⟨v,.inl ⟨rfl,λw' C=>hy w' C a u⟩,k _ (u.put o v)⟩
theorem np_{tt:TT}(hT:TOk P tt)(hv:pv tt (ev al) op=some v)(hd:Nat.blt d n=true)(k:WN N P n ops Q rest ((d,v)::al) w): WN N P n ops Q ((0,⟨some d,op,ty,pos,aft,none⟩)::rest) al w :=
 ny_ (λw' _ a C=>Gh w' hT (λx u o=>C.ev o) hv) hd k
theorem npn_{tt:TT}(hT:TOk P tt)(hv:pv tt (ev al) op=some v)(k:WN N P n ops Q rest al w): WN N P n ops Q ((0,⟨none,op,ty,pos,aft,none⟩)::rest) al w:=λa C=>
 ⟨v,.inl ⟨rfl,λw' o=>Gh w' hT (λx u o=>C.ev o) hv⟩,k _ C⟩
theorem Qhg{kd:Nat}(hj:Zn ops j=some s)(hs:lk al s=some (.bool b))(k:WN N P n ops Q ((kd,⟨dst,op,ty,pos,aft,none⟩)::rest) al w):
  WN N P n ops Q ((kd,⟨dst,op,ty,pos,aft,some (j,b)⟩)::rest) al w:=λa G=>by
 have h:=k a G;have J:=Jjz (ops:=ops) G hj hs;have C:Region.wanted (⟨dst,op,ty,pos,aft,none⟩:Oper) (yielded ops a.tmps)=true:=rfl;have u:Region.wanted (⟨dst,op,ty,pos,aft,some (j,b)⟩:Oper) (yielded ops a.tmps)=true:=by simp [Region.wanted,J]
 unfold Xs Uj at h ⊢;match kd,h with
 | 0,h=>
  obtain ⟨v,o,O⟩:=h;refine ⟨v,?_,O⟩;rcases o with o|o
  .exact .inl ⟨u,o.2⟩
  .exact absurd o.1 (by rw [C];simp)
 | 1,h=>simp only [C,if_true]at h;simp only [u,if_true];exact h
 | k+2,h=>simp only [C,if_true]at h;simp only [u,if_true];exact h
theorem Qgz{kd:Nat}(hj:Zn ops j=some s)(hs:lk al s=some (.bool b))(hne:(b == c)=false)(hd:Nat.blt d n=true)(k:WN N P n ops Q rest ((d,undef)::al) w):
  WN N P n ops Q ((kd,⟨some d,op,ty,pos,aft,some (j,c)⟩)::rest) al w:=λa G=>by
 have o:d<n:=by (have:d+1<=n:=by simpa [Nat.blt] using hd);(omega)
 have J:=Jjz (ops:=ops) G hj hs;have C:Region.wanted (⟨some d,op,ty,pos,aft,some (j,c)⟩:Oper) (yielded ops a.tmps)=false:=by
  simp [Region.wanted,J];simpa using hne
 have u:=k _ (G.put o undef);unfold Xs Uj;match kd with
 | 0=>exact ⟨undef,.inr ⟨C,rfl⟩,u⟩
 | 1=>simp only [C];exact u
 | m+2=>simp only [C];exact u
theorem ν9{kd:Nat}(k:WN N P n ops Q drest ((d,undef)::al) w)(hj:Zn ops j=some s:=by rfl)(hs:lk al s=some undef:=by rfl)(hd:Nat.blt d n=true:=by rfl):
  WN N P n ops Q ((kd,⟨some d,op,ty,pos,aft,some (j,c)⟩)::drest) al w:=λa G=>by
 have o:d<n:=by (have:d+1<=n:=by simpa [Nat.blt] using hd);(omega)
 have J:=Jcf (ops:=ops) G hj hs;have C:Region.wanted (⟨some d,op,ty,pos,aft,some (j,c)⟩:Oper) (yielded ops a.tmps)=false:=by simp [Region.wanted,J]
 have u:=k _ (G.put o undef);unfold Xs Uj;match kd with
 | 0=>exact ⟨undef,.inr ⟨C,rfl⟩,u⟩
 | 1=>simp only [C];exact u
 | m+2=>simp only [C];exact u
theorem ν4[h:Tab P tt](k:WN N P n ops Q drest ((d,v)::al) w)(hv:pv tt (ev al) op=some v:=by rfl)(hd:Nat.blt d n=true:=by rfl): WN N P n ops Q ((0,⟨some d,op,ty,pos,aft,none⟩)::drest) al w:=np_ h.ok hv hd k
theorem ν5(h:QX n Q .normal al w): WN N P n ops Q [] al w:=nnil_ h
theorem ν6{kd:Nat}(k:WN N P n ops Q ((kd,⟨dst,op,ty,pos,aft,none⟩)::drest) al w)(hj:Zn ops j=some s:=by rfl)(hs:lk al s=some (.bool b):=by rfl): WN N P n ops Q ((kd,⟨dst,op,ty,pos,aft,some (j,b)⟩)::drest) al w:=Qhg hj hs k
theorem ν7{kd:Nat}(k:WN N P n ops Q drest ((d,undef)::al) w)(hj:Zn ops j=some s:=by rfl)(hs:lk al s=some (.bool b):=by rfl)(hne:(b == c)=false:=by rfl)(hd:Nat.blt d n=true:=by rfl):
  WN N P n ops Q ((kd,⟨some d,op,ty,pos,aft,some (j,c)⟩)::drest) al w:=Qgz hj hs hne hd k
theorem ν8[h:Tab P tt](k:WN N P n ops Q drest al w)(hv:pv tt (ev al) op=some v:=by rfl): WN N P n ops Q ((0,⟨none,op,ty,pos,aft,none⟩)::drest) al w:=npn_ h.ok hv k
theorem nadd_{t:TypeId}{b:Int}(hx:ev al x=some (.int .i64 a))(hy:ev al y=some (.int .i64 b))(hc:-9223372036854775808<=a+b/\a+b<=9223372036854775807)(hd:Nat.blt d n=true)(k:WN N P n ops Q rest ((d,.int .i64 (a+b))::al) w): WN N P n ops Q ((0,⟨some d,.binOp .add t x y yt,ty,pos,aft,none⟩)::rest) al w:=by
 have e:IntKind.i64.wrap (a+b)=a+b:=by rw [IntKind.wrap_i64];omega
 exact np_ (tt:=[]) trivial (v:=.int .i64 (a+b)) (by simp only [pv,hx,hy,bop,if_true,e]) hd k
theorem nsub_{t:TypeId}{b:Int}(hx:ev al x=some (.int .i64 a))(hy:ev al y=some (.int .i64 b))(hc:-9223372036854775808<=a-b/\a-b<=9223372036854775807)(hd:Nat.blt d n=true)(k:WN N P n ops Q rest ((d,.int .i64 (a-b))::al) w): WN N P n ops Q ((0,⟨some d,.binOp .sub t x y yt,ty,pos,aft,none⟩)::rest) al w:=by
 have e:IntKind.i64.wrap (a-b)=a-b:=by rw [IntKind.wrap_i64];omega
 exact np_ (tt:=[]) trivial (v:=.int .i64 (a-b)) (by simp only [pv,hx,hy,bop,if_true,e]) hd k
theorem ν1{t:TypeId}{b:Int}(k:WN N P n ops Q drest ((d,.int .i64 (a+b))::al) w)(hx:ev al x=some (.int .i64 a):=by rfl)(hy:ev al y=some (.int .i64 b):=by rfl)(hd:Nat.blt d n=true:=by rfl)(hc:-9223372036854775808<=a+b/\a+b<=9223372036854775807:=by omega):
  WN N P n ops Q ((0,⟨some d,.binOp .add t x y yt,ty,pos,aft,none⟩)::drest) al w:=nadd_ hx hy hc hd k
theorem ν2{t:TypeId}{b:Int}(k:WN N P n ops Q drest ((d,.int .i64 (a-b))::al) w)(hx:ev al x=some (.int .i64 a):=by rfl)(hy:ev al y=some (.int .i64 b):=by rfl)(hd:Nat.blt d n=true:=by rfl)(hc:-9223372036854775808<=a-b/\a-b<=9223372036854775807:=by omega):
  WN N P n ops Q ((0,⟨some d,.binOp .sub t x y yt,ty,pos,aft,none⟩)::drest) al w:=nsub_ hx hy hc hd k
theorem nload(hT:TOk P tt)(ht:tk tt t=some k)(hk:Vm k.desc=true)(hx:ev al x=some (.pointer (some p)))(hc:∀ w',GrN N w w'->w'.cell? p=some v)(hd:Nat.blt d n=true)(kk:WN N P n ops Q rest ((d,v)::al) w): WN N P n ops Q ((0,⟨some d,.load t x,ty,pos,aft,none⟩)::rest) al w :=
 ny_ (λw' o a u=>by simp [execOp,u.ev hx,Instr.loadAt,Instr.sureAddr,Jpz (w:=w') hT ht hk (hc w' o)]) hd kk
theorem Qhd(hT:TOk P tt)(ht:tk tt t=some k)(hk:k.desc=.invalid)(hl:k.size=cs.length)(hx:ev al x=some (.pointer (some p)))(hc:∀ w',GrN N w w'->∀ j u,cs[j]?=some u->w'.cell? (p.add j)=some u)(hd:Nat.blt d n=true)(kk:WN N P n ops Q rest ((d,.agg cs.toArray)::al) w): WN N P n ops Q ((0,⟨some d,.load t x,ty,pos,aft,none⟩)::rest) al w :=
 ny_ (λw' o a C=>by simp [execOp,C.ev hx,Instr.loadAt,Instr.sureAddr,Ia (w:=w') hT ht hk hl (hc w' o)]) hd kk
theorem Jtc(hT:TOk P tt){sz:Nat}{c:Nat}(q:Nat)(j:Nat)(ht:tk tt t=some k)(hk:k.desc=.slice e)(hz:k.esz=sz)(hx:ev al x=some (.slice A m c))(hi:ev al i=some (.int kd z))(hr:Rd w sz A m cs)(hj:z=(j:Int))(hlt:j<m)(h0:0<sz)(hq:j*sz=q)(hd:Nat.blt d n=true)(kk:WN N P n ops Q rest ((d,.pointer (some (adr A q)))::al) w): WN N P n ops Q ((0,⟨some d,.indexAddr t x i,ty,pos,aft,none⟩)::rest) al w:=by
 obtain ⟨u,C⟩:=Kg hT ht hk hz;obtain ⟨O,rfl,J⟩:=hr.isome om h0;subst hj;subst hq;refine ny_ (λw' G a o=>?_) hd kk;simp [execOp,o.ev hx,o.ev hi,Instr.indexAt,asIntOf,run_underlying u,Vw w' C,adr];intro h;omega
theorem Qhf(hT:TOk P tt){c:Nat}(j:Nat)(ht:tk tt t=some k)(hk:k.desc=.slice e)(hz:k.esz=1)(hx:ev al x=some (.slice A m c))(hi:ev al i=some (.int kd z))(hr:Rd w 1 A m cs)(hj:z=(j:Int))(hlt:j<m)(hd:Nat.blt d n=true)(kk:WN N P n ops Q rest ((d,.pointer (some (adr A j)))::al) w): WN N P n ops Q ((0,⟨some d,.indexAddr t x i,ty,pos,aft,none⟩)::rest) al w :=
 Jtc hT j j ht hk hz hx hi hr hj hlt om om hd kk
theorem nld[h:Tab P tt](hc:∀ w',GrN N w w'->w'.cell? p=some v)(kk:WN N P n ops Q drest ((d,v)::al) w)(ht:tk tt t=some k:=by rfl)(hk:Vm k.desc=true:=by rfl)(hx:ev al x=some (.pointer (some p)):=by rfl)(hd:Nat.blt d n=true:=by rfl): WN N P n ops Q ((0,⟨some d,.load t x,ty,pos,aft,none⟩)::drest) al w:=nload h.ok ht hk hx hc hd kk
theorem Qe[h:Tab P tt](hc:∀ w',GrN N w w'->∀ j u,cs[j]?=some u->w'.cell? (p.add j)=some u)(kk:WN N P n ops Q drest ((d,.agg cs.toArray)::al) w)(ht:tk tt t=some k:=by rfl)(hk:k.desc=.invalid:=by rfl)(hl:k.size=cs.length:=by rfl)(hx:ev al x=some (.pointer (some p)):=by rfl)(hd:Nat.blt d n=true:=by rfl): WN N P n ops Q ((0,⟨some d,.load t x,ty,pos,aft,none⟩)::drest) al w:=Qhd h.ok ht hk hl hx hc hd kk
theorem nix[h:Tab P tt]{c:Nat}(j:Nat)(hr:Rd w 1 A m cs)(hlt:j<m)(kk:WN N P n ops Q drest ((d,.pointer (some (adr A j)))::al) w)(ht:tk tt t=some k:=by rfl)(hk:k.desc=.slice e:=by rfl)(hz:k.esz=1:=by rfl)(hx:ev al x=some (.slice A m c):=by rfl)(hi:ev al i=some (.int kd z):=by rfl)(hj:z=(j:Int):=by first|rfl|omega)(hd:Nat.blt d n=true:=by rfl):
  WN N P n ops Q ((0,⟨some d,.indexAddr t x i,ty,pos,aft,none⟩)::drest) al w:=Qhf h.ok j ht hk hz hx hi hr hj hlt hd kk
theorem Yk[h:Tab P tt]{c:Nat}(sz j:Nat)(hr:Rd w sz A m cs)(hlt:j<m)(kk:WN N P n ops Q drest ((d,.pointer (some (adr A (j*sz))))::al) w)(ht:tk tt t=some k:=by rfl)(hk:k.desc=.slice e:=by rfl)(hz:k.esz=sz:=by rfl)(hx:ev al x=some (.slice A m c):=by rfl)(hi:ev al i=some (.int kd z):=by rfl)(hj:z=(j:Int):=by first|rfl|omega)(h0:0<sz:=by omega)(hd:Nat.blt d n=true:=by rfl):
  WN N P n ops Q ((0,⟨some d,.indexAddr t x i,ty,pos,aft,none⟩)::drest) al w:=Jtc h.ok (j*sz) j ht hk hz hx hi hr hj hlt h0 rfl hd kk
def toN(N:Nat->Prop)(P:Program)(ops:Array Oper)(Q:Exit->Act->World->Prop)(w0:World)(rest:List (Nat×Oper)): Exit->Act->World->Prop
 | .normal,a,w=>GrN N w0 w/\Xs N P ops Q rest a w
 | _,_,_=>False
theorem Jb{w0:World}(hx:GrN N w0 w)(h:WN N P n ops Q drest al w): QX n (toN N P ops Q w0 drest) .normal al w:=λa o=>⟨hx,h a o⟩
theorem nop(h:WL P n ops (toN N P ops Q w drest) [o] al w): WN N P n ops Q ((1,o)::drest) al w:=λa J=>by
 have u:=h a J;unfold wpList at u;unfold Xs Uj;simp only;have C:¬ LetsOut (toN N P ops Q w drest):=by rintro ⟨a,w,h⟩;exact h
 split
 .rename_i hw;simp only [hw,if_true]at u;rcases u with u|⟨_,u⟩
  .refine Oper.wp_mono (K:=wpList P ops (toN N P ops Q w drest) []) (λU w' O=>O) ?_;unfold Oper.wp at u ⊢;exact Yj (Q:=toN N P ops Q w drest) (λc a w G=>G.elim) (λG=>absurd G C) u
  .exact absurd u C
 .rename_i hw;simp only [hw]at u;exact u.2
def toT(N:Nat->Prop)(P:Program)(ops:Array Oper)(Q:Exit->Act->World->Prop)(rest:List (Nat×Oper)): Exit->Act->World->Prop
 | .normal,a,w=>Xs N P ops Q rest a w
 | _,_,_=>False
theorem Uv(h:WN N P n ops Q drest al w): QX n (toT N P ops Q drest) .normal al w:=h
theorem Xy(h:WL P n ops (toT N P ops Q drest) [o] al w): WN N P n ops Q ((2,o)::drest) al w:=λa J=>by
 have u:=h a J;unfold wpList at u;unfold Xs Uj;simp only;have C:¬ LetsOut (toT N P ops Q drest):=by rintro ⟨a,w,h⟩;exact h
 split
 .rename_i hw;simp only [hw,if_true]at u;rcases u with u|⟨_,u⟩
  .refine Oper.wp_mono (K:=Xs N P ops Q drest) (λU w' O=>O) ?_;unfold Oper.wp at u ⊢;exact Yj (Q:=toT N P ops Q drest) (λc a w G=>G.elim) (λG=>absurd G C) u
  .exact absurd u C
 .rename_i hw;simp only [hw]at u;exact u
theorem Jp(hc:w.cell? p=some v)(hn:¬ N p.block): ∀ w',GrN N w w'->w'.cell? p=some v:=λw' o=>by
 rw [<-hc];exact World.cell?_of_block (o.block _ (World.block_lt_of_cell? w p hc) hn)
end
end Go.Wk
namespace Go.Wk
theorem ρn{p q:Prop}(h:p)(t:Hold p->q:=by intro h;(repeat first|refine ν1 ?_|refine ν2 ?_|refine ν4 ?_|refine ν5 ?_|refine ν6 ?_|refine ν7 ?_|refine ν9 ?_|refine ν8 ?_|refine χ1 ?_|refine χ2 ?_|refine χ3 ?_|refine χ4 ?_|refine χ5 ?_|refine χ6 ?_|refine χ7 ?_);exact h.of): q:=t ⟨h⟩
end Go.Wk
namespace Go.Proofs.YtebcagekopgdhaaGreatDoor
open Go.RowKit Pl Go.Wk
attribute [local irreducible] WC WL QX WD WDB WP
variable {cs xs xs':List Value}{base c d g k l s t:Nat}{fs fs':Nat->List Nat}{M:Nat->Prop}{vs vs':Nat->Row}{fv vv:Nat->Value}{A:Option Addr}{a b x:Row}{v' v4 va vb vx:Value}{w w4:World}
structure TriB(w:World)(base:Nat)(A:Option Addr)(d:Nat)(vv fv:Nat->Value)(vs:Nat->Row)(fs:Nat->List Nat): Prop where
 lev:w.ownsRow base 297 2 (.slice A d d) d (Zy d vv fv)
 vals:Fam w base 47 3 d vv (λl=>(vs l).length) (λl=>Jm (vs l))
 fst:Fam w base 3 1 d fv (λl=>(fs l).length) (λl=>Jt (nz (fs l)))
section
variable {w w':World} {base:Nat} {A:Option Addr} {d:Nat} {vv fv:Nat->Value} {vs:Nat->Row} {fs:Nat->List Nat}
theorem TriB.ext(h:TriB w base A d vv fv vs fs)(hx:Ext w w'): TriB w' base A d vv fv vs fs:=⟨Jk h.lev hx,h.vals.ext hx,h.fst.ext hx⟩
theorem TriB.vform(h:TriB w base A d vv fv vs fs)(hl:l<d): ∃ B c,vv l=.slice B (vs l).length c/\(vs l).length<=c/\Rd w 3 B (vs l).length (Jm (vs l)):=by
 obtain ⟨B,c,e,o,_⟩:=Jy (h.vals.own l hl);refine ⟨B,c,e,o,?_⟩;have:=h.vals.own l hl;rw [e]at this;exact Rd.own this
theorem TriB.fform(h:TriB w base A d vv fv vs fs)(hl:l<d): ∃ B c,fv l=.slice B (fs l).length c/\(fs l).length<=c/\Rd w 1 B (fs l).length (Jt (nz (fs l))):=by
 obtain ⟨B,c,e,o,_⟩:=Jy (h.fst.own l hl);refine ⟨B,c,e,o,?_⟩;have:=h.fst.own l hl;rw [e]at this;exact Rd.own this
theorem TriB.rd(h:TriB w base A d vv fv vs fs): Rd w 2 A d (Zy d vv fv):=Rd.own h.lev
theorem TriB.v(h:TriB w base A d vv fv vs fs)(hl:l<d): w.cell? (adr A (l*2))=some (vv l):=h.rd.cell (Gu d vv fv hl).1
theorem TriB.v0(h:TriB w base A d vv fv vs fs)(hl:l<d): w.cell? ((adr A (l*2)).add 0)=some (vv l):=by rw [add_zero];exact h.v hl
theorem TriB.f1(h:TriB w base A d vv fv vs fs)(hl:l<d): w.cell? ((adr A (l*2)).add 1)=some (fv l):=by rw [Xh];exact h.rd.cell (Gu d vv fv hl).2
end
theorem Jcr{li:Int}(hR:Rd w 2 A d (Zy d vv fv))(hv:∀ l,l<d->∃ B c,vv l=.slice B (vs l).length c)(hli:li=(l:Int))(hd:d<=32):
  Ret Tryz.prog 215 [.agg #[.slice A d c],.int .i64 li] w λu w'=>u=.int .i64 (if l<d then (vs l).length else 0:Nat)/\Ext w w':=by
 subst hli;refine Jz Tryz.func215 Tryz.ntmps215 rfl kr rfl ?_;refine ρ ?_;refine bx ?_;intro O b o Z J;refine ρ ?_;refine ld (J.at (i:=0) rfl) ?_;refine ρ ?_;refine ci (λh=>?_) (λh=>?_)
 .refine ρ ?_;refine Jq ⟨?_,o⟩;rw [if_neg (by have:=oT h;omega)];rfl
 have G:l<d:=by have:=oF h;omega
 have C:=hR.ext o;obtain ⟨B,c',e⟩:=hv l G;refine ρ ?_;refine ld (J.at (i:=0) rfl) ?_;refine ρ ?_;refine ixq 2 l C G ?_;have U:O.cell? ((adr A (l*2)).add 0)=some (vv l):=by rw [add_zero];exact C.cell (Gu d vv fv G).1
 refine ρ ?_;refine ld U ?_;rw [e];refine ρ ?_;refine Jq ⟨?_,o⟩;rw [if_pos G]
theorem Qyr(ha:RowV w va a)(hb:RowV w vb b)(hlen:a=[]∨a.length=b.length): Ret Tryz.prog 214 [va,vb] w λu w'=>u=.int .i64 (shr a b:Int)/\Ext w w':=by
 obtain ⟨A,ac,rfl,a8,a7,a2⟩:=ha;obtain ⟨B,bc,rfl,a6,a5,a1⟩:=hb;refine Jz Tryz.func214 Tryz.ntmps214 rfl kr rfl ?_;refine ρ ?_;refine Qh (fun (k:Nat)=>[(0,.slice A a.length ac),(1,.slice B b.length bc),(5,.int .i64 (k:Int))]) (λk w'=>Ext w w'/\k<=a.length/\k<=b.length/\shr a b=k+shr (a.drop k) (b.drop k)) (λk=>a.length-k) 0 sB ⟨Ext.refl w,Nat.zero_le _,Nat.zero_le _,by simp⟩ ?_;rintro k w1 ⟨hx,a4,a3,he⟩;refine ρ ?_;refine Xt (fun (t:Bool)=>[(0,.slice A a.length ac),(1,.slice B b.length bc),(5,.int .i64 (k:Int)),(21,.bool t)]) (λt w'=>Ext w w'/\(t=true->k<a.length/\k<b.length/\a.getD k V0=b.getD k V0)/\(t=false->shr (a.drop k) (b.drop k)=0)) ?_ ?_
 .refine dr [(0,0),(0,1),(0,2),(0,3),(0,4),(0,5),(0,6),(0,7),(0,8),(0,9),(0,10),(0,11),(0,12),(1,13),(0,14),(0,15)] kr ?_;have G:=hx.drew;have U:RdR _ A a:=Rd.ext a2 G;have O:RdR _ B b:=Rd.ext a1 G;refine ρd ?_;refine dki 10 (λh=>?_) (λh=>?_)
  .have C:k<a.length:=by have:=oT h;omega
   have J:k<b.length:=by
    rcases hlen with h'|h'
    .rw [h']at C;simp at C
    .omega
   refine ρd ?_;refine Kj 3 k U C ?_;refine ρd ?_;refine Qw (λj u Z=>RdR.cell U C Z) ?_;refine ρd ?_;refine Kj 3 k O J ?_;refine ρd ?_;refine Qw (λj u Z=>RdR.cell O J Z) ?_;refine ρd ?_;refine dcl (Jqg (a.getD k V0) (b.getD k V0) _) ?_;rintro x w2 ⟨rfl,o⟩;refine ⟨o,?_⟩;refine ρd ?_;refine ρ ?_;refine Jf _ sB ⟨G.trans o,λh=>⟨C,J,cmp_V.zero _ _ (Xd h)⟩,λh=>?_⟩;rw [List.drop_eq_getElem_cons C,List.drop_eq_getElem_cons J,shr,if_neg];intro e;have:=Xf h;rw [Jr V0 a C,Jr V0 b J,e,Xe]at this;exact this rfl
  .refine ρd ?_;refine ρ ?_;refine Jf false sB ⟨G,λe=>(by cases e),λ_=>?_⟩;rw [List.drop_of_length_le (by have:=oF h;omega),Jdc]
 rintro t w2 ⟨o,h1,h2⟩;refine ci (λh=>?_) (λh=>?_)
 .obtain ⟨C,J,e⟩:=h1 h;refine ρ ?_;refine Qv (k+1) sO ⟨o,om,om,?_⟩ om;rw [he,List.drop_eq_getElem_cons C,List.drop_eq_getElem_cons J,shr,if_pos (by rw [<-Jr V0 a C,<-Jr V0 b J];exact e)];omega
 .refine ρ ?_;refine Jq ⟨?_,o⟩;rw [he,h2 h];rfl
def Vv(A:Option Addr)(d:Nat)(vv fv:Nat->Value)(k:Nat): Prop:=(Value.slice A d d).ownBlock=some k∨∃ l,l<d/\((vv l).ownBlock=some k∨(fv l).ownBlock=some k)
theorem Jqz{e sz m base' e' sz' m':Nat}{v:Value}(h:w.ownsRow base e sz v m xs)(h':w.ownsRow base' e' sz' v' m' xs')(hne:Nat.beq e e'=false)(hg:v.ownBlock=some g): v'.ownBlock≠some g:=by
 have o:e≠e':=by intro C;subst C;simp at hne
 intro u;rcases h.2 with ⟨rfl,_⟩|⟨g1,cap,cur,rfl,_,hh,_⟩
 .simp [Value.ownBlock]at hg
 .rcases h'.2 with ⟨rfl,_⟩|⟨g2,cap',cur',rfl,_,hh',_⟩
  .simp [Value.ownBlock]at u
  .have J:g1=g:=by simpa [Value.ownBlock] using hg
   have G:g2=g:=by simpa [Value.ownBlock] using u
   subst J;subst G;rw [hh]at hh';injection hh' with hh'
   injection hh' with _ ht
   exact o ht
theorem TriB.box(h:TriB w base A d vv fv vs fs){b:Nat}(hB:Blk w b t cs)(h1:Nat.beq 297 t=false)(h2:Nat.beq 47 t=false)(h3:Nat.beq 3 t=false): ¬ Vv A d vv fv b:=by
 rintro (e|⟨l,o,e|e⟩)
 .exact hB.ne_own h.lev h1 e.symm
 .exact hB.ne_own (h.vals.own l o) h2 e.symm
 .exact hB.ne_own (h.fst.own l o) h3 e.symm
theorem TriB.congr(h:TriB w base A d vv fv vs fs)(h1:∀ l,l<d->vs' l=vs l)(h2:∀ l,l<d->fs' l=fs l): TriB w base A d vv fv vs' fs' :=
 ⟨h.lev,⟨λi hi=>by rw [h1 i hi];exact h.vals.own i hi,h.vals.dis⟩,⟨λi hi=>by rw [h2 i hi];exact h.fst.own i hi,h.fst.dis⟩⟩
theorem Qck{p:Addr}(u:Value): w.grownBy (w.setCell p u) (some p.block):=⟨rfl,rfl,rfl,by simp [World.setCell],λk o hn=>Below.heap_setCell w p u k (λe=>hn (by rw [e]))⟩
theorem TriB.setV{vv fv : Nat → Value}{vs : Nat → Row}{fs : Nat → List Nat}{r : Row}(H : TriB w base A d vv fv vs fs)(lk : k < d)(ho : w4.ownsRow base 47 3 v4 r.length (Jm r))(hg : w.grownBy w4 (vv k).ownBlock)(hn : ∀ g, v4.ownBlock = some g → (vv k).ownBlock = some g ∨ w.heap.size ≤ g): w4.cell? ((adr A (k * 2)).add 0) = some (vv k) ∧ w4.frozen? ((adr A (k * 2)).add 0) = false ∧ v4.oneCell' = true ∧ TriB (w4.setCell ((adr A (k * 2)).add 0) v4) base A d (upd vv k v4) fv (upd vs k r) fs ∧
      w4.grownBy (w4.setCell ((adr A (k * 2)).add 0) v4) (Value.slice A d d).ownBlock := by
  have F4 := H.vals.upd lk ho hg hn
  have L4 := Xu H.lev (H.vals.own k lk) hg rfl
  have f4 := H.fst.other (H.vals.own k lk) hg rfl
  obtain ⟨s1, s2, s3, s4, s5⟩ := Zl L4 (q := k * 2) om v4
  rw [add_zero]
  have h1 : v4.oneCell' = true := by obtain ⟨B, c, e, _⟩ := Jy ho; rw [e]; rfl
  refine ⟨s1.trans (Gu d vv fv lk).1, s2, h1, ⟨?_, ?_, ?_⟩, s5⟩
  . rw [Qqp d vv fv lk] at s3; exact s3
  . have F5 := F4.other L4 s5 rfl
    refine ⟨fun i hi => ?_, F5.dis⟩
    have := F5.own i hi
    by_cases e : i = k
    . subst e; rw [Jh, Jh, Jh] at this; simp only [Jh]; exact this
    . rw [Jc _ _ e, Jc _ _ e, Jc _ _ e] at this; simp only [Jc _ _ e]; exact this
  . exact f4.other L4 s5 rfl
theorem TriB.setF{vv fv : Nat → Value}{vs : Nat → Row}{fs : Nat → List Nat}{r : List Nat}(H : TriB w base A d vv fv vs fs)(lk : k < d)(ho : w4.ownsRow base 3 1 v4 r.length (Jt (nz r)))(hg : w.grownBy w4 (fv k).ownBlock)(hn : ∀ g, v4.ownBlock = some g → (fv k).ownBlock = some g ∨ w.heap.size ≤ g): w4.cell? ((adr A (k * 2)).add 1) = some (fv k) ∧ w4.frozen? ((adr A (k * 2)).add 1) = false ∧ v4.oneCell' = true ∧ TriB (w4.setCell ((adr A (k * 2)).add 1) v4) base A d vv (upd fv k v4) vs (upd fs k r) ∧
      w4.grownBy (w4.setCell ((adr A (k * 2)).add 1) v4) (Value.slice A d d).ownBlock := by
  have F4 := H.fst.upd lk ho hg hn
  have L4 := Xu H.lev (H.fst.own k lk) hg rfl
  have f4 := H.vals.other (H.fst.own k lk) hg rfl
  obtain ⟨s1, s2, s3, s4, s5⟩ := Zl L4 (q := k * 2 + 1) om v4
  rw [Xh]
  have h1 : v4.oneCell' = true := by obtain ⟨B, c, e, _⟩ := Jy ho; rw [e]; rfl
  refine ⟨s1.trans (Gu d vv fv lk).2, s2, h1, ⟨?_, ?_, ?_⟩, s5⟩
  . rw [Qqn d vv fv lk] at s3; exact s3
  . exact f4.other L4 s5 rfl
  . have F5 := F4.other L4 s5 rfl
    refine ⟨fun i hi => ?_, F5.dis⟩
    have := F5.own i hi
    by_cases e : i = k
    . subst e; rw [Jh, Jh, Jh] at this; simp only [Jh]; exact this
    . rw [Jc _ _ e, Jc _ _ e, Jc _ _ e] at this; simp only [Jc _ _ e]; exact this
theorem Qgp(h:∀ j,Vv A d vv fv j->M j)(lk:k<d)(hn:∀ g,v4.ownBlock=some g->M g): ∀ j,Vv A d (upd vv k v4) fv j->M j:=by
 rintro j (e|⟨l,o,e|e⟩)
 .exact h j (.inl e)
 .by_cases el:l=k
  .subst el;rw [Jh]at e;exact hn j e
  .rw [Jc _ _ el]at e;exact h j (.inr ⟨l,o,.inl e⟩)
 .exact h j (.inr ⟨l,o,.inr e⟩)
theorem Jsv(h:∀ j,Vv A d vv fv j->M j)(lk:k<d)(hn:∀ g,v4.ownBlock=some g->M g): ∀ j,Vv A d vv (upd fv k v4) j->M j:=by
 rintro j (e|⟨l,o,e|e⟩)
 .exact h j (.inl e)
 .exact h j (.inr ⟨l,o,.inl e⟩)
 .by_cases el:l=k
  .subst el;rw [Jh]at e;exact hn j e
  .rw [Jc _ _ el]at e;exact h j (.inr ⟨l,o,.inr e⟩)
theorem Qrx(v:V)(w:World): (Instr.buildSlice 36 1 #[(0,v.val)]).run Tryz.prog w=.ok (.slice (some ⟨w.heap.size,0,none⟩) 1 1) (w.alloc (.cells v.cells.toArray 47)):=kr
theorem EVs: ElT Tryz.prog 36 47 3 32 (.agg #[.int .i64 0,.int .i64 0,.string ⟨#[]⟩]):=⟨Tryz.underlying36,info_parts kr,rfl,by decide⟩
theorem bs1Int'(z:Int)(w:World): (Instr.buildSlice 44 1 #[(0,.int .i64 z)]).run Tryz.prog w=.ok (.slice (some ⟨w.heap.size,0,none⟩) 1 1) (w.alloc (.cells [.int .i64 z].toArray 3)):=kr
theorem rowC_one'(v:V): Jm [v]=v.cells:=by simp [Jm]
theorem Qyv(H:TriB w base A d vv fv vs fs)(hx:Off (Vv A d vv fv) w (λu=>RowV u vx x))(hlen:x.length=d)(hd:d<=32)(hs:s<=d)(hbase:base<=w.heap.size)(hsm:∀ l,l<d->(vs l).length<=1000000/\(fs l).length<=1000000):
  Ret Tryz.prog 213 [.agg #[.slice A d d],vx,.int .i64 (s:Int)] w λu w'=>∃ vv' fv',TriB w' base A d vv' fv' (λl=>if s<=l then vs l++[x.getD l V0] else vs l) (λl=>if s<=l then fs l++[if l+1<d then (vs (l+1)).length else 0] else fs l) /\
   GrN (Vv A d vv fv) w w'/\∀ j,Vv A d vv' fv' j->Vv A d vv fv j∨w.heap.size<=j:=by
 obtain ⟨X,xc,b1,bd,bc,bb⟩:=hx.here;subst b1;refine Jz Tryz.func213 Tryz.ntmps213 rfl kr rfl ?_;refine ρ ?_;refine bx ?_;intro w1 b C hb hB;obtain ⟨M,hM⟩:∃ M:Nat->Prop,M=λj=>Vv A d vv fv j∨w.heap.size<=j/\j≠b:=⟨_,rfl⟩;have ab:¬ M b:=by
  rw [hM];rintro (G|G)
  .exact (H.ext C).box hB rfl rfl rfl G
  .exact G.2 rfl
 have aj:Off M w1 (λu=>RowV u (.slice X x.length xc) x):=λu hg=>hx u ⟨hg.os.trans C.os,hg.tape.trans C.tape,hg.output.trans C.output,Nat.le_trans C.size hg.size,λk hk hn=>(hg.block k (nM hk C.size) (λe=>by rw [hM]at e;rcases e with e|e;exact hn e;omega)).trans (C.block k hk)⟩;refine ρ ?_;refine Xm (fun (k:Nat) (vv' fv':Nat->Value)=>[(1,.slice X x.length xc),(3,.pointer (some ⟨b,0,none⟩)),(6,.int .i64 (k:Int))])
  (λk vv' fv' w'=>s<=k/\k<=d/\TriB w' base A d vv' fv' (λl=>if s<=l/\l<k then vs l++[x.getD l V0] else vs l) (λl=>if s<=l/\l<k then fs l++[if l+1<d then (vs (l+1)).length else 0] else fs l)/\GrN M w1 w'/\∀ j,Vv A d vv' fv' j->M j) (λk _ _=>d-k) s vv fv sB
  ⟨Nat.le_refl _,hs,?_,GrN.refl _ _,λj hj=>by rw [hM];exact .inl hj⟩ ?_
 .have e1:(λl=>if s<=l/\l<s then vs l++[x.getD l V0] else vs l)=vs:=by funext l;rw [if_neg om]
  have e2:(λl=>if s<=l/\l<s then fs l++[if l+1<d then (vs (l+1)).length else 0] else fs l)=fs:=by funext l;rw [if_neg om]
  rw [e1,e2];exact H.ext C
 rintro k vv' fv' w2 ⟨bh,bg,H2,a2,a8⟩;refine ρ ?_;refine ci (λh=>?_) (λh=>?_)
 .have lk:k<d:=by have:=oT h;omega
  have lx:k<x.length:=om
  have be:=hsm k lk;clear h;obtain ⟨B,c,b2,b9,b4⟩:=H2.vform lk;obtain ⟨own,o⟩:∃ own,own=(vv' k).ownBlock:=⟨_,rfl⟩;have O:∀ j,own=some j->M j:=λj U=>a8 j (.inr ⟨k,lk,.inl (by rw [<-o];exact U)⟩);refine ρ ?_;refine Xt (fun (a6:Nat->Value)=>[(1,.slice X x.length xc),(3,.pointer (some ⟨b,0,none⟩)),(6,.int .i64 (k:Int))])
   (λa6 w5=>TriB w5 base A d a6 fv' (upd (λl=>if s<=l/\l<k then vs l++[x.getD l V0] else vs l) k (vs k++[x.getD k V0])) (λl=>if s<=l/\l<k then fs l++[if l+1<d then (vs (l+1)).length else 0] else fs l)/\GrN M w1 w5/\∀ j,Vv A d a6 fv' j->M j) ?_ ?_
  .refine drN (one own) 4 [(0,0),(0,1),(0,2),(0,3),(0,4),(0,5),(0,6),(0,7),(0,8),(0,9),(0,10),(0,11),(0,12),(1,13),(1,14),(0,15),(0,16),(2,17)] kr ?_;have a7:Ext w2 w2.drew:=(Ext.refl w2).drew;have a5:=H2.ext a7;have J:=a2.trans (GrN.ext a7);have ai:=Jv hB J ab;have ax:RdR w2.drew X x:=by
    obtain ⟨X',aw,e1,_,_,e4⟩:=aj _ J;injection e1 with e1 _ _;subst e1;exact e4
   have nb:¬ one own b:=λe=>ab (O b e);have nA:∀ ad,A=some ad->¬ one own ad.block:=λad e G=>by
    subst e;exact Jqz a5.lev (a5.vals.own k lk) rfl rfl (by rw [<-o];exact G)
   have ae:¬ one own (adr A (k*2)).block:=by
    obtain ⟨ad,e,_⟩:=a5.rd.isome om om;subst e;simp only [adr,Option.getD_some,Ya];exact nA ad rfl
   have ay:∀ w',GrN (one own) w2.drew w'->RdR w' X x:=λw' hg=>by
    obtain ⟨X',aw,e1,_,_,e4⟩:=aj _ (J.trans (hg.mono λj _ U=>O j U));injection e1 with e1 _ _;subst e1;exact e4
   refine ρn ?_;refine nld (Jp (ai.at (i:=0) rfl) nb) ?_;refine ρn ?_;refine nld (Jp (ai.at (i:=0) rfl) nb) ?_;refine ρn ?_;refine Yk 2 k a5.rd lk ?_;refine ρn ?_;refine nld (Jp (a5.v0 lk) (by rw [Ya];exact ae)) ?_;refine ρn ?_;refine Yk 3 k ax lx ?_;refine ρn ?_;refine Qe (cs:=(x.getD k V0).cells) (λw' hg j u hu=>RdR.cell (ay w' hg) lx hu) ?_;refine ρn ?_;refine nop ?_;refine bsl (Qrx (x.getD k V0)) ?_;intro w3 b3 a4 bj b6;refine ρ ?_;refine Jb (GrN.ext a4) ?_;have H3:=a5.ext a4;have aq:=H3.vals.own k lk;rw [if_neg (show ¬ (s<=k/\k<k) by omega)]at aq;have bf:(vs k).length+1<=1000001:=om
   refine nop ?_;refine apb (base:=base) EVs aq (b6.rd (n:=1) rfl) (V.one _) (by unfold maxLen;omega) om (nL hbase (nL C.size (nL J.size a4.size))) ?_;intro v4 w4 ap aa av;refine ρ ?_;refine Jb (GrN.by aa λj U=>by rw [<-o]at U;exact U) ?_;have er:Jm (vs k)++(x.getD k V0).cells=Jm (vs k++[x.getD k V0]):=by rw [Qdd,rowC_one']
   have el:(vs k).length+1=(vs k++[x.getD k V0]).length:=by simp
   rw [er,el]at ap;obtain ⟨c1,c2,c3,H5,af⟩:=H3.setV lk ap aa av;have bm:b<w2.drew.heap.size:=ai.lt;have L4:=Xu H3.lev (H3.vals.own k lk) aa rfl;refine ρn ?_;refine Yk 2 k (Rd.own L4) lk ?_;refine ρn ?_;refine Xy ?_;refine sto c1 c2 ?_ (hv:=c3);refine ρ ?_;have ag:∀ g,v4.ownBlock=some g->M g:=λg eg=>by
    rcases av g eg with G|G
    .exact O g (by rw [o];exact G)
    .rw [hM];exact .inr ⟨nL C.size (nL J.size (nL a4.size G)),λe=>by have:=a4.size;omega⟩
   refine Jf (upd vv' k v4) sB ⟨H5,?_,Qgp (M:=M) a8 lk ag⟩;exact ((J.trans (GrN.ext a4)).trans (GrN.by aa λj U=>O j (by rw [o];exact U))).trans (GrN.by af λj U=>a8 j (.inl U))
  clear O o b2 b9 b4 H2 a2 a8;rintro a6 w5 ⟨H5,af,ah⟩;obtain ⟨own,o⟩:∃ own,own=(fv' k).ownBlock:=⟨_,rfl⟩;have O:∀ j,own=some j->M j:=λj U=>ah j (.inr ⟨k,lk,.inr (by rw [<-o];exact U)⟩);refine drN (one own) 4 [(0,0),(0,1),(0,2),(0,3),(0,4),(0,5),(0,6),(0,7),(0,8),(0,9),(0,10),(0,11),(1,12),(1,13),(1,14),(0,15),(0,16),(2,17)] kr ?_;have a7:Ext w5 w5.drew:=(Ext.refl w5).drew;have a1:=H5.ext a7;have a3:=af.trans (GrN.ext a7);have ac:=Jv hB a3 ab;have nb:¬ one own b:=λe=>ab (O b e);have ae:¬ one own (adr A (k*2)).block:=by
   obtain ⟨ad,e,_⟩:=a1.rd.isome om om;subst e;simp only [adr,Option.getD_some,Ya];intro G;exact Jqz a1.lev (a1.fst.own k lk) rfl rfl (by rw [<-o];exact G)
  refine ρn ?_;refine nld (Jp (ac.at (i:=0) rfl) nb) ?_;refine ρn ?_;refine nld (Jp (ac.at (i:=0) rfl) nb) ?_;refine ρn ?_;refine Yk 2 k a1.rd lk ?_;refine ρn ?_;refine nld (Jp (a1.f1 lk) (by rw [Ya];exact ae)) ?_;refine ρn ?_;refine Qe (cs:=[.slice A d d]) (λw' hg j u hu=>(Jv ac hg nb).at hu) ?_;refine ρn ?_;refine nop ?_;refine cl (Jcr (l:=k+1) (li:=(k:Int)+1) a1.rd (λl hl=>by obtain ⟨B,c,e,_⟩:=a1.vform hl;exact ⟨B,c,e⟩) om hd) ?_;rintro u w6 ⟨rfl,am⟩;refine ρ ?_;refine Jb (GrN.ext am) ?_;obtain ⟨nn,ar⟩:∃ nn:Nat,nn=if k+1<d then (vs (k+1)).length else 0:=⟨_,rfl⟩
  have ba:(if k+1<d then List.length (upd (λl=>if s<=l/\l<k then vs l++[x.getD l V0] else vs l) k (vs k++[x.getD k V0]) (k+1)) else 0)=nn:=by
   rw [ar,Jc _ _ om,if_neg (show ¬ (s<=k+1/\k+1<k) by omega)]
  rw [ba];refine nop ?_;refine bsl (bs1Int' (nn:Int)) ?_;intro w7 b7 ak bi b5;refine ρ ?_;refine Jb (GrN.ext ak) ?_;have Z:=am.trans ak;have H7:=a1.ext Z;have ao:=H7.fst.own k lk;rw [if_neg (show ¬ (s<=k/\k<k) by omega)]at ao;refine nop ?_;refine apb (base:=base) EI ao (b5.rd (n:=1) rfl) (λu hu=>by rw [List.mem_singleton.1 hu];rfl) (by unfold maxLen;omega) om (nL hbase (nL C.size (nL a3.size Z.size))) ?_;intro v8 w8 an a9 au;refine ρ ?_;refine Jb (GrN.by a9 λj U=>by rw [<-o]at U;exact U) ?_;have er:Jt (nz (fs k))++[.int .i64 (nn:Int)]=Jt (nz (fs k++[nn])):=by simp [Jt,nz]
  have el:(fs k).length+1=(fs k++[nn]).length:=by simp
  rw [er,el]at an;obtain ⟨c1,c2,c3,H9,b8⟩:=H7.setF lk an a9 au;have L8:=Xu H7.lev (H7.fst.own k lk) a9 rfl;refine ρn ?_;refine Yk 2 k (Rd.own L8) lk ?_;refine ρn ?_;refine Xy ?_;refine sto c1 c2 ?_ (hv:=c3);refine ρ ?_;have ag:∀ g,v8.ownBlock=some g->M g:=λg eg=>by
   rcases au g eg with G|G
   .exact O g (by rw [o];exact G)
   .rw [hM];exact .inr ⟨nL C.size (nL a3.size (nL Z.size G)),λe=>by have:=Z.size;have:=ac.lt;omega⟩
  refine Qt (k+1) a6 (upd fv' k v8) sO ⟨om,om,H9.congr (λl hl=>?_) (λl hl=>?_),?_,Jsv (M:=M) ah lk ag⟩ om
  .by_cases e:l=k
   .subst e;rw [Jh,if_pos om]
   .rw [Jc _ _ e];by_cases e2:s<=l/\l<k
    .rw [if_pos e2,if_pos om]
    .rw [if_neg e2,if_neg om]
  .by_cases e:l=k
   .subst e;rw [Jh,if_pos om,ar]
   .rw [Jc _ _ e];by_cases e2:s<=l/\l<k
    .rw [if_pos e2,if_pos om]
    .rw [if_neg e2,if_neg om]
  .exact ((a3.trans (GrN.ext Z)).trans (GrN.by a9 λj U=>O j (by rw [o];exact U))).trans (GrN.by b8 λj U=>ah j (.inl U))
 .have ek:k=d:=by have:=oF h;omega
  subst ek;refine ρ ?_;refine Uf ⟨vv',fv',H2.congr (λl hl=>?_) (λl hl=>?_),?_,λj hj=>?_⟩
  .by_cases e:s<=l
   .rw [if_pos e,if_pos ⟨e,hl⟩]
   .rw [if_neg e,if_neg (λG=>e G.1)]
  .by_cases e:s<=l
   .rw [if_pos e,if_pos (show s<=l/\l<k from ⟨e,hl⟩)]
   .rw [if_neg e,if_neg (λG=>e G.1)]
  .exact ⟨a2.os.trans C.os,a2.tape.trans C.tape,a2.output.trans C.output,Nat.le_trans C.size a2.size,λj hj hn=>(a2.block j (nM hj C.size) (λe=>by rw [hM]at e;rcases e with e|e;exact hn e;omega)).trans (C.block j hj)⟩
  .have:=a8 j hj;rw [hM]at this;exact this.imp id λG=>G.1
open Go.RowKit Pl Go.Wk
attribute [local irreducible] WN
variable {t:Int}{zs:List Int}{base c d n:Nat}{A:Option Addr}{w:World}
theorem Qmn(hR:Rd w 1 A n (Jt zs))(hn:zs.length=n)(hm:n<=1100000): Ret Tryz.prog 225 [.slice A n c,.int .i64 t] w λu w'=>w'=w/\∃ z,u=.int .i64 z/\(0<=z↔t∈zs):=by
 refine Jz Tryz.func225 Tryz.ntmps225 rfl kr rfl ?_;refine ρ ?_;refine Qh (fun (k:Nat)=>[(0,.slice A n c),(1,.int .i64 t),(7,.int .i64 (n:Int)),(8,.int .i64 (k:Int))]) (λk w'=>w'=w/\k<=n/\t ∉ zs.take k) (λk=>n-k) 0 sB ⟨rfl,Nat.zero_le _,by simp⟩ ?_;rintro k w' ⟨rfl,J,C⟩;refine ρ ?_;refine ci (λh=>?_) (λh=>?_)
 .have lk:k<n:=by have:=oT h;omega
  have o:k<zs.length:=om
  refine ρ ?_;refine ix k hR lk ?_;refine ρ ?_;refine ld (hR.cell (Jkq o)) ?_;refine ρ ?_;refine ci (λh=>?_) (λh=>?_)
  .refine ρ ?_;refine Jq ⟨rfl,(k:Int),rfl,⟨λ_=>?_,λ_=>om⟩⟩;rw [Xd h];exact getD_mem' 0 zs o
  .refine ρ ?_;refine Qv (k+1) sO ⟨rfl,om,?_⟩ om;rw [Qb 0 o,List.mem_append,List.mem_singleton];rintro (G|G)
   .exact C G
   .exact Xf h G
 .refine ρ ?_;refine Jq ⟨rfl,-1,rfl,⟨λe=>om,λe=>?_⟩⟩;rw [List.take_of_length_le (by have:=oF h;omega)]at C;exact absurd e C
theorem Qpq(hR:Rd w 1 A n (Jt zs))(hn:zs.length=n)(hm:n<=1100000): Ret Tryz.prog 212 [.slice A n c,.int .i64 t] w λu w'=>w'=w/\∃ b:Bool,u=.bool b/\(b=true↔t∈zs):=by
 refine Jz Tryz.func212 Tryz.ntmps212 rfl kr rfl ?_;refine ρ ?_;refine cl (Qmn hR hn hm) ?_;rintro u w' ⟨rfl,z,rfl,o⟩;refine ρ ?_;exact Jq ⟨rfl,decide (0<=z),rfl,by rw [decide_eq_true_iff];exact o⟩
def TriV(w:World)(v:Value)(d:Nat)(rs:List Row): Prop:=∃ (A:Option Addr) (vv fv:Nat->Value) (fs:Nat->List Nat),v=.agg #[.slice A d d]/\Rd w 2 A d (Zy d vv fv)/\(∀ l,l<d->∃ B c,vv l=.slice B (lvl rs l).length c/\RdR w B (lvl rs l)) /\
 (∀ l,l<d->∃ B c,fv l=.slice B (fs l).length c/\Rd w 1 B (fs l).length (Jt (nz (fs l))))/\∀ l,l+1<d->Chl rs l (fs l)
theorem TriB.off{vv fv:Nat->Value}{rs:List Row}{fs:Nat->List Nat}{N:Nat->Prop}(h:TriB w base A d vv fv (lvl rs) fs)(hc:∀ l,l+1<d->Chl rs l (fs l))(hN:∀ j,Vv A d vv fv j->¬ N j): Off N w (λu=>TriV u (.agg #[.slice A d d]) d rs):=by
 intro u G;refine ⟨A,vv,fv,fs,rfl,Vj h.rd G (λ_ O e=>?_),λl o=>?_,λl o=>?_,hc⟩
 .subst e;exact hN _ (.inl rfl)
 .obtain ⟨B,c,e,_,C⟩:=h.vform o;refine ⟨B,c,e,Vj C G λ_ O J=>hN _ (.inr ⟨l,o,.inl ?_⟩)⟩;rw [e,J];rfl
 .obtain ⟨B,c,e,_,C⟩:=h.fform o;refine ⟨B,c,e,Vj C G λ_ O J=>hN _ (.inr ⟨l,o,.inr ?_⟩)⟩;rw [e,J];rfl
theorem Jcc: Qp Tryz.prog 285=some (.agg #[.slice none 0 0]):=kr
theorem Qtj(A:Option Addr)(n c:Nat)(w:World): (Instr.build 285 #[(0,.slice A n c)]).run Tryz.prog w=.ok (.agg #[.slice A n c]) w:=kr
theorem EL: ElT Tryz.prog 283 297 2 48 (.agg #[.slice none 0 0,.slice none 0 0]):=⟨Tryz.underlying283,info_parts kr,rfl,by decide⟩
theorem one1: ∀ u∈[Value.slice A n c],u.oneCell'=true:=by intro u o;rw [List.mem_singleton.1 o];rfl
theorem made2(d:Nat): (madeCells (Value.agg #[.slice none 0 0,.slice none 0 0]).cells (d*2)).toList=Zy d (λ_=>.slice none 0 0) (λ_=>.slice none 0 0):=by
 apply List.ext_getElem?
 intro k;have C:(Value.agg #[.slice none 0 0,.slice none 0 0]).cells = #[.slice none 0 0,.slice none 0 0]:=rfl;rw [C];by_cases hk:k<d*2
 .have u:=Gu d (λ_=>Value.slice none 0 0) (λ_=>Value.slice none 0 0) (l:=k / 2) om;have o:k % 2=0∨k % 2=1:=om
  rcases o with o|o
  .have e:k / 2*2=k:=om
   rw [e]at u;rw [u.1];simp only [madeCells,Array.getElem?_toList,Array.getElem?_map,Array.getElem?_range,hk,if_true,Option.map_some];have:k % (#[Value.slice none 0 0,.slice none 0 0]:Array Value).size=0:=o;rw [this];rfl
  .have e:k / 2*2+1=k:=om
   rw [e]at u;rw [u.2];simp only [madeCells,Array.getElem?_toList,Array.getElem?_map,Array.getElem?_range,hk,if_true,Option.map_some];have:k % (#[Value.slice none 0 0,.slice none 0 0]:Array Value).size=1:=o;rw [this];rfl
 .rw [List.getElem?_eq_none (by simp [madeCells];omega),List.getElem?_eq_none (by rw [Zq];omega)]
open Go.RowKit Pl Go.Wk
variable {ls rs:List Row}{d:Nat}{r x:Row}
theorem Qfq(h:r.length=d): pmR (List.range d) r=r:=by
 apply List.ext_getElem
 .simp [pmR,h]
 .intro i u o;simp [pmR,List.getD,List.getElem?_eq_getElem o]
theorem TriB.nil(w:World)(base:Nat){A:Option Addr}(hl:w.ownsRow base 297 2 (.slice A d d) d (Zy d (λ_=>.slice none 0 0) (λ_=>.slice none 0 0))): TriB w base A d (λ_=>.slice none 0 0) (λ_=>.slice none 0 0) (λ_=>[]) (λ_=>[]) :=
 ⟨hl,⟨λi hi=>Xa _ _ _ _,λi j g _ _ _ e=>by cases e⟩,⟨λi hi=>Xa _ _ _ _,λi j g _ _ _ e=>by cases e⟩⟩
theorem Jts(l:Nat): (lvl rs l).length<=rs.length:=by
 rw [Jxl];have:=Jwg (rs.map (List.take (l+1)));rw [List.length_map]at this;exact this
theorem Qbw: stp rs x<=x.length:=by
 unfold stp;split
 .exact (Jpl _ _).2
 .exact Nat.zero_le _
theorem Qys{w:World}{v vc:Value}(hrel:RelV w v d ls)(hlt:Lt [] ls)(hlen:∀ r∈ls,r.length=d)(hc:IntsV w vc (nz (List.range d)))(hd:d<=32)(hbig:ls.length<=65536):
  Ret Tryz.prog 203 [v,vc] w λu w'=>Ext w w'/\∃ t,u=.tuple #[t,.int .i64 0]/\(∃ A,t=.agg #[.slice A d d])/\Off (λk=>k<w.heap.size) w' (λx=>TriV x t d ls):=by
 obtain ⟨C,cc,rfl,di,dh,cq⟩:=id hc;obtain ⟨rv,rfl,bp⟩:=id hrel;obtain ⟨ed,A0,c0,_,rfl,_⟩:=id bp;have ba:(nz (List.range d)).length=d:=by rw [Qq,List.length_range]
 rw [ba]at hc di dh cq ⊢;have d2:∀ {k:Nat},k<d->(List.range d).getD k 0=k:=fun {k} hk=>by simp [List.getD,hk]
 have bt:∀ {k:Nat},k<d->(Jt (nz (List.range d)))[k]?=some (.int .i64 (k:Int)):=fun {k} hk=>by
  have:=Xn (cs:=List.range d) (i:=k) (by rw [List.length_range];exact hk);rw [d2 hk]at this;exact this
 refine Jz Tryz.func203 Tryz.ntmps203 rfl kr rfl ?_;refine ρ ?_;refine bx ?_;intro w1 b1 cd eo e3;refine ρ ?_;refine alc Jcc ?_;intro w2 b2 cb dl d1;have c9:=cd.trans cb;refine ρ ?_;refine Qh (fun (k:Nat)=>[(1,.slice C d cc),(2,.pointer (some ⟨b1,0,none⟩)),(4,.pointer (some ⟨b2,0,none⟩)),(15,.slice C d cc),(16,.int .i64 (d:Int)),(17,.int .i64 (k:Int))]) (λk w'=>Ext w2 w'/\k<=d) (λk=>d-k) 0 sB ⟨Ext.refl _,Nat.zero_le _⟩ ?_;rintro k w3 ⟨ar,hk⟩;have a7:=c9.trans ar;have bj:=(e3.ext cb).ext ar;refine ρ ?_;refine ci (λh=>?_) (λh=>?_)
 .have lk:k<d:=by have:=oT h;omega
  have b3:=cq.ext a7;refine ρ ?_;refine ix k b3 lk ?_;refine ρ ?_;refine ld (b3.cell (bt lk)) ?_;refine ρ ?_;refine kf 24 ?_ ?_
  .exact dF om
  refine ρ ?_;refine ldW bj ?_;refine ρ ?_;refine cl (Jdz (hrel.ext a7)) ?_;rintro u w4 ⟨rfl,ao⟩;refine ρ ?_;refine cf ?_ ?_
  .exact dF om
  refine ρ ?_;refine slh k ?_;refine ρ ?_;have dn:Rd w4 1 C k (Jt ((nz (List.range d)).take k)):=by
   have:=(b3.ext ao).take (m:=k) om;rw [Nat.mul_one]at this;have e:Jt ((nz (List.range d)).take k)=(Jt (nz (List.range d))).take k:=by simp [Jt]
   rw [e];exact this
  refine cl (Qpq (t:=(k:Int)) dn (by rw [List.length_take,ba];omega) om) ?_;rintro u w5 ⟨rfl,t,rfl,ht⟩;have de:t=false:=by
   cases t with
   | false=>rfl
   | true=>
    exfalso
    have hm:=ht.1 rfl;obtain ⟨i,hi,e⟩:=List.getElem_of_mem hm;rw [List.length_take,ba]at hi;have:((nz (List.range d)).take k)[i]'(by rw [List.length_take,ba];exact hi)=(i:Int):=by simp [nz]
    rw [this]at e;omega
  refine ρ ?_;refine cf de ?_;refine ρ ?_;exact Qv (k+1) sO ⟨ar.trans ao,om⟩ om
 clear h;have cj:ls.map (pmR (List.range d))=ls:=by
  conv=>rhs;rw [<-List.map_id ls]
  exact List.map_congr_left λr hr=>by rw [Qfq (hlen r hr)];rfl
 refine ρ ?_;refine ldW bj ?_;refine ρ ?_;refine cl (Jrq (cs:=List.range d) (hrel.ext a7) (hc.ext a7) hlen (λc hc=>List.mem_range.1 hc) (by rw [List.length_range];exact hd) hbig) ?_;rintro u w4 ⟨ao,pv,rfl,⟨pz,pB,pm,pd,rfl⟩,m,ch,eh,ef,dg⟩;have df:m=ls:=by
  have:=dg (.inr (by rw [cj];exact Uu hlt));rw [cj]at this;exact Jqq this.1 hlt this.2
 subst df;rw [List.length_range]at ch;have c8:=a7.trans ao;refine ρ ?_;refine alc Yo ?_;intro w5 b5 dd dk e1;refine ρ ?_;refine stb e1 ?_ (Vn (z:=pz) (A:=pB) (n:=pm) (c:=pd));intro w6 e0 em dc;have ac:Ext w4 w6:=dc w4 dd dk;have ap:=c8.trans ac;have dv:RelV w6 (.agg #[.int .i64 pz,.slice pB pm pd]) d m:=ch.here.ext ac;refine ρ ?_;refine mkn EL d om (by unfold maxLen;omega) ?_;intro w7 A db br hO;rw [made2]at br;refine ρ ?_;refine bld (Qtj A d d _) ?_;refine ρ ?_;refine alc Jcc ?_;intro w8 b8 da dj dz;refine ρ ?_;refine stb dz ?_ (one1 (A:=A) (n:=d) (c:=d));intro w9 dx ei d9;have aq:Ext w7 w9:=d9 w7 da dj;have G:=db.trans aq;have c7:=ap.trans G;have dm:=TriB.nil w9 w6.heap.size (Jk br aq);have cm:∀ j,(Value.slice A d d).ownBlock=some j->w6.heap.size<=j/\j<w7.heap.size:=by
  obtain ⟨_,_,_,_,hf⟩:=Jy br;exact hf
 refine ρ ?_;refine ldW (e0.ext G) ?_;refine ρ ?_;refine cl (Jdx (dv.ext G)) ?_;rintro u an ⟨J,b9⟩;obtain ⟨ps,R,rc,ck,rfl,e8,e7,dt,dq⟩:=b9;have ee:ps.length=m.length:=by rw [ck,List.length_map]
 generalize hn:ps.length=n at *
 have aw:∀ i,m.getD i []=(ps.getD i z0).2:=λi=>by rw [ck];exact Jxn
 have bn:=c7.trans J;obtain ⟨Ar,b7⟩:∃ Ar:Nat->Prop,Ar=λj=>j<w9.heap.size∨an.heap.size<=j:=⟨_,rfl⟩;have du:Off Ar an (λu=>Rd u 1 R n (ps.map (·.1))):=dt.mono λj hj av=>by rw [b7]at av;omega
 have bu:∀ p∈ps,Off Ar an (λu=>RowV u p.1 p.2):=λp hp=>(dq p hp).mono λj hj av=>by rw [b7]at av;omega
 have a2:=dx.ext J;have d0:=(((((d1.ext ar).ext ao).ext ac).ext G).ext J);obtain ⟨M,hM⟩:∃ M:Nat->Prop,M=λj=>w6.heap.size<=j/\Ar j/\j≠b8:=⟨_,rfl⟩;have bv:∀ j,M j->Ar j:=λj hj=>by rw [hM]at hj;exact hj.2.1
 have b4:¬ M b8:=λe=>by rw [hM]at e;exact e.2.2 rfl
 have cv:¬ M b2:=λe=>by
  rw [hM]at e;have h1:=d1.lt;have h2:=ar.size;have h3:=ao.size;have h4:=ac.size;omega
 refine ρ ?_;refine Xm (fun (k:Nat) (vv fv:Nat->Value)=>[(4,.pointer (some ⟨b2,0,none⟩)),(10,.pointer (some ⟨b8,0,none⟩)),(11,if k=0 then .slice none 0 0 else (ps.getD (k-1) z0).1),(53,.slice R n rc),(54,.int .i64 (n:Int)),(55,.int .i64 (k:Int))])
  (λk vv fv w'=>k<=n/\(∃ fs,TriB w' w6.heap.size A d vv fv (lvl (m.take k)) fs/\(∀ l,l<d->(fs l).length=(lvl (m.take k) l).length)/\∀ l,l+1<d->Fst (m.take k) l (fs l))/\GrN M an w'/\∀ j,Vv A d vv fv j->M j) (λk _ _=>n-k) 0 (λ_=>.slice none 0 0) (λ_=>.slice none 0 0) sB
  ⟨Nat.zero_le _,⟨λ_=>[],(dm.ext J).congr (λl U=>rfl) (λl U=>rfl),λl U=>rfl,λl U=>Fst.nil l⟩,GrN.refl _ _,λj hj=>?_⟩ ?_
 .rcases hj with e|⟨l,_,e|e⟩
  .have:=cm j e;rw [hM];refine ⟨this.1,by rw [b7];exact .inl (nM this.2 aq.size),λe2=>?_⟩;subst e2;omega
  .cases e
  .cases e
 rintro k vv fv a3 ⟨hk,⟨fs,bz,ay,aj⟩,a1,a9⟩;have a6:GrN Ar an a3:=a1.mono λj _ hj=>bv j hj;refine ρ ?_;refine ci (λh=>?_) (λh=>?_)
 .have lk:k<n:=by have:=oT h;omega
  have c6:k<m.length:=om
  clear h;have bi:=du a3 a6;have cr:RowV a3 (ps.getD k z0).1 (m.getD k []):=by rw [aw];exact bu _ (Vf hn lk) a3 a6
  have ca:(m.getD k []).length=d:=hlen _ (getD_mem' [] m c6);have cx:∃ y,RowV a3 (if k=0 then .slice none 0 0 else (ps.getD (k-1) z0).1) y/\(y=[]∨y.length=(m.getD k []).length)/\shr y (m.getD k [])=stp (m.take k) (m.getD k []):=by
   by_cases e:k=0
   .subst e;rw [if_pos rfl];exact ⟨[],RowV.nil _ _ _,.inl rfl,by rw [Jdc];rfl⟩
   .rw [if_neg e];have d5:k-1<n:=om
    refine ⟨m.getD (k-1) [],by rw [aw];exact bu _ (Vf hn d5) a3 a6,.inr (by rw [ca];exact hlen _ (getD_mem' [] m om)),?_⟩;have e2:(m.take k).getLast?=some (m.getD (k-1) []):=by
     rw [List.getLast?_eq_getElem?,List.length_take,Nat.min_eq_left om,List.getElem?_take,if_pos om,Jr [] m om,List.getElem?_eq_getElem om]
    unfold stp;rw [e2]
  obtain ⟨y,d8,d7,d6⟩:=cx;have au:m.take (k+1)=m.take k++[m.getD k []]:=Qb [] c6;have ag:Lt [] (m.take k++[m.getD k []]):=by rw [<-au];exact List.Pairwise.sublist (List.take_sublist _ _) hlt
  have a4:∀ r∈m.take k++[m.getD k []],r.length=d:=by rw [<-au];exact λr hr=>hlen r (List.mem_of_mem_take hr)
  refine ρ ?_;refine ix k bi lk ?_;refine ρ ?_;refine ld (Jqr bi hn lk) ?_;refine ρ ?_;refine drN (λ_=>False) 4 [(0,0),(0,1),(0,2),(0,3),(1,4),(2,5)] kr ?_;have aa:Ext a3 a3.drew:=(Ext.refl a3).drew;have bs:=a1.trans (GrN.ext aa);have ak:=Jv a2 bs b4;refine ρn ?_;refine Qe (cs:=[.slice A d d]) (λw' hg j u hu=>(Jv ak hg (λe=>e)).at hu) ?_;refine ρn ?_;refine nop ?_;refine cl (Qyr (d8.ext aa) (cr.ext aa) d7) ?_;rintro u am ⟨rfl,be⟩;refine ρ ?_;refine Jb (GrN.ext be) ?_;rw [d6];have af:=aa.trans be;have bc:=bz.ext af;have o:=a1.trans (GrN.ext af);have bo:Off (Vv A d vv fv) am (λu=>RowV u (ps.getD k z0).1 (m.getD k [])):=λu hu=>by
   rw [aw];exact bu _ (Vf hn lk) u ((o.mono λj _ hj=>bv j hj).trans (hu.mono λj _ hj=>bv j (a9 j hj)))
  refine Xy ?_;refine cl (Qyv (s:=stp (m.take k) (m.getD k [])) bc bo ca hd (by have:=Qbw (rs:=m.take k) (x:=m.getD k []);omega) ?_ ?_) ?_
  .have h1:=G.size;have h2:=J.size;have h3:=o.size;omega
  .intro l U;have h1:=Jts (rs:=m.take k) l;rw [List.length_take]at h1;have h2:=ay l U;omega
  rintro u c4 ⟨d3,ab,e6,ax,cw⟩;refine ρ ?_;refine Qt (k+1) d3 ab (by repeat' (first|exact Sub.nil|refine Sub.cons (by first|rfl|(refine congrArg (λz=>some (Value.int .i64 z)) ?_;omega)|(rw [if_neg (Nat.succ_ne_zero k)];rfl)) ?_)) ⟨om,⟨_,e6.congr (vs':=lvl (m.take (k+1))) (λl U=>?_) (λl U=>rfl),λl U=>?_,λl U=>?_⟩,o.trans (ax.mono λj _ hj=>a9 j hj),λj hj=>?_⟩ om
  .rw [au,Jtr ag a4 U];by_cases e:stp (m.take k) (m.getD k [])<=l
   .rw [if_pos e,if_neg om]
   .rw [if_neg e,if_pos om]
  .rw [au,Jtr ag a4 U];by_cases e:stp (m.take k) (m.getD k [])<=l
   .rw [if_pos e,if_neg (show ¬ l+1<=stp (m.take k) (m.getD k []) by omega),List.length_append,List.length_append,ay l U];rfl
   .rw [if_neg e,if_pos om];exact ay l U
  .rw [au];by_cases e:stp (m.take k) (m.getD k [])<=l
   .rw [if_pos e,if_pos U,Jxl];exact (aj l U).more ag a4 e
   .rw [if_neg e];exact (aj l U).keep ag a4 om
  .rcases cw j hj with h'|h'
   .exact a9 j h'
   .rw [hM];have h1:=G.size;have h2:=J.size;have h3:=o.size;have h4:=a2.lt;exact ⟨om,by rw [b7];exact .inr om,om⟩
 .have ek:k=n:=by have:=oF h;omega
  subst ek;rw [List.take_of_length_le om]at bz ay aj;have ak:=Jv a2 a1 b4;refine ρ ?_;refine ld (ak.at (i:=0) rfl) ?_;refine ρ ?_;refine Je (fun (k:Nat) (fv:Nat->Value)=>[(4,.pointer (some ⟨b2,0,none⟩)),(10,.pointer (some ⟨b8,0,none⟩)),(69,.int .i64 (d:Int)),(70,.int .i64 (k:Int))])
   (λq ab w'=>q<=d/\TriB w' w6.heap.size A d vv ab (lvl m) (λl=>if l<q then fs l++[if l+1<d then (lvl m (l+1)).length else 0] else fs l)/\GrN M an w'/\∀ j,Vv A d vv ab j->M j) (λq _=>d-q) 0 fv sB
   ⟨Nat.zero_le _,bz.congr (λl U=>rfl) (λl U=>by rw [if_neg om]),a1,a9⟩ ?_
  clear ak a9 a6 a1;rintro q ab am ⟨hq,bc,o,ai⟩;refine ρ ?_;refine ci (λh=>?_) (λh=>?_)
  .have lq:q<d:=by have:=oT h;omega
   clear h;have e9:=ay q lq;have en:=Jts (rs:=m) q;obtain ⟨own,a8⟩:∃ own,own=(ab q).ownBlock:=⟨_,rfl⟩;have bq:∀ j,own=some j->M j:=λj ej=>ai j (.inr ⟨q,lq,.inr (by rw [<-a8];exact ej)⟩);refine ρ ?_;refine drN (one own) 4 [(0,0),(0,1),(0,2),(0,3),(0,4),(0,5),(0,6),(0,7),(0,8),(0,9),(0,10),(0,11),(1,12),(1,13),(1,14),(0,15),(0,16),(2,17)] kr ?_;have aa:Ext am am.drew:=(Ext.refl am).drew;have O:=bc.ext aa;have a5:=o.trans (GrN.ext aa);have b6:=Jv a2 a5 b4;have nb:¬ one own b8:=λe=>b4 (bq b8 e);have d4:¬ one own (adr A (q*2)).block:=by
    obtain ⟨ad,e,_⟩:=O.rd.isome om om;subst e;simp only [adr,Option.getD_some,Ya];intro h';exact Jqz O.lev (O.fst.own q lq) rfl rfl (by rw [<-a8];exact h')
   refine ρn ?_;refine nld (Jp (b6.at (i:=0) rfl) nb) ?_;refine ρn ?_;refine nld (Jp (b6.at (i:=0) rfl) nb) ?_;refine ρn ?_;refine Yk 2 q O.rd lq ?_;refine ρn ?_;refine nld (Jp (O.f1 lq) (by rw [Ya];exact d4)) ?_;refine ρn ?_;refine Qe (cs:=[.slice A d d]) (λw' hg j u hu=>(Jv b6 hg nb).at hu) ?_;refine ρn ?_;refine nop ?_;refine cl (Jcr (l:=q+1) (li:=(q:Int)+1) O.rd (λl U=>by obtain ⟨B,c,e,_⟩:=O.vform U;exact ⟨B,c,e⟩) om hd) ?_;rintro u c4 ⟨rfl,ae⟩;refine ρ ?_;refine Jb (GrN.ext ae) ?_;obtain ⟨nn,cg⟩:∃ nn:Nat,nn=if q+1<d then (lvl m (q+1)).length else 0:=⟨_,rfl⟩
   rw [<-cg];refine nop ?_;refine bsl (bs1Int' (nn:Int)) ?_;intro ec ep bd ea cn;refine ρ ?_;refine Jb (GrN.ext bd) ?_;have Z:=ae.trans bd;have bb:=O.ext Z;have bg:=bb.fst.own q lq;rw [if_neg (show ¬ q<q by omega)]at bg;refine nop ?_;refine apb (base:=w6.heap.size) EI bg (cn.rd (n:=1) rfl) (λu hu=>by rw [List.mem_singleton.1 hu];rfl) (by unfold maxLen;omega) om ?_ ?_
   .have h1:=G.size;have h2:=J.size;have h3:=a5.size;have h4:=Z.size;omega
   intro c5 eb bf ah bh;refine ρ ?_;refine Jb (GrN.by ah λj ej=>by rw [<-a8]at ej;exact ej) ?_;have er:Jt (nz (fs q))++[.int .i64 (nn:Int)]=Jt (nz (fs q++[nn])):=by simp [Jt,nz]
   have el:(fs q).length+1=(fs q++[nn]).length:=by simp
   rw [er,el]at bf;obtain ⟨c1,c2,c3,e5,co⟩:=bb.setF lq bf ah bh;have e4:=Xu bb.lev (bb.fst.own q lq) ah rfl;refine ρn ?_;refine Yk 2 q (Rd.own e4) lq ?_;refine ρn ?_;refine Xy ?_;refine sto c1 c2 ?_ (hv:=c3);refine ρ ?_;have dw:∀ g,c5.ownBlock=some g->M g:=λg eg=>by
    rcases bh g eg with h'|h'
    .exact bq g (by rw [a8];exact h')
    .rw [hM];have h1:=G.size;have h2:=J.size;have h3:=a5.size;have h4:=Z.size;have h5:=a2.lt;exact ⟨om,by rw [b7];exact .inr om,om⟩
   refine Jl (q+1) (upd ab q c5) sO ⟨om,e5.congr (λl U=>rfl) (λl U=>?_),?_,Jsv (M:=M) ai lq dw⟩ om
   .by_cases e:l=q
    .subst e;rw [Jh,if_pos (show l<l+1 by omega),cg]
    .rw [Jc _ _ e];by_cases e2:l<q
     .rw [if_pos e2,if_pos (show l<q+1 by omega)]
     .rw [if_neg e2,if_neg (show ¬ l<q+1 by omega)]
   .exact ((a5.trans (GrN.ext Z)).trans (GrN.by ah λj ej=>bq j (by rw [a8];exact ej))).trans (GrN.by co λj ej=>ai j (.inl ej))
  .have eq:q=d:=by have:=oF h;omega
   subst eq;have cy:=Jv a2 o b4;have cz:=Jv d0 o cv;refine ρ ?_;refine ldW cy ?_;refine ρ ?_;refine stb cz ?_ (one1 (A:=A) (n:=q) (c:=q));intro c4 bw ax ae;refine ρ ?_;have bm:Ext w am:=o.old bn λj hj=>by rw [hM]at hj;exact nL ap.size hj.1
   refine Zp bw ⟨ae w bm (nL cd.size dl),_,rfl,⟨A,rfl⟩,?_⟩;have ce:=bc.off (N:=λj=>j<w.heap.size∨j=b2) (λl U=>?_) (λj hj av=>?_)
   .refine (ce.grown ax (λj ej=>.inr (by injection ej with ej;exact ej.symm))).mono λj _ hj=>.inl hj
   .rw [if_pos (show l<q by omega),if_pos U,Jxl];exact (aj l U).close
   .have h1:=ai j hj;rcases av with h'|h'
    .rw [hM]at h1;have:=ap.size;omega
    .subst h';exact cv h1
end Go.Proofs.YtebcagekopgdhaaGreatDoor
namespace Go.Wk
open Go.RowKit
variable {a:Act}{cs us:List Value}{g j m n o:Nat}{i x y:Operand}{p:Option Addr}{k:TK}{e t t2:TypeId}{u v:Value}{w:World}
section
variable {N:Nat->Prop} {P:Program} {n:Nat} {al:AL} {w:World} {Q:Exit->Act->World->Prop} {ops:Array Oper} {rest:List Oper} {drest:List (Nat×Oper)}
variable {d ty:Nat} {op:Op} {pos:String} {aft:Array Edge} {tt:TT}
theorem Jpw(hT:TOk P tt)(ht:tk tt t=some k)(hk:k.desc=.pointer e)(ha:Fr n al a)(hx:ev al x=some (.pointer p))(dst:Option Nat)(w:World):
  (execOp a.eval ⟨dst,.binOp .eql t x (.const (.pointer none)) t2,ty,pos,aft,none⟩).run P w=.ok (.value (.bool p.isNone)) w:=by
 have o:=Vh hT ht hk rfl;have h:∀ d:Nat,(Op.equalIn (d+1) t (.pointer p) (.pointer none)).run P w=.ok p.isNone w:=λd=>by cases p<;>simp [Op.equalIn,run_underlying o]
 have u:a.eval (.const (.pointer none))=.pointer none:=rfl;simp [execOp,ha.ev hx,u,eqGuard,binOp,Op.equal,Op.maxDepth,h 9999]
theorem Jpv(hT:TOk P tt)(ht:tk tt t=some k)(hk:k.desc=.pointer e)(ha:Fr n al a)(hx:ev al x=some (.pointer p))(dst:Option Nat)(w:World):
  (execOp a.eval ⟨dst,.binOp .neq t x (.const (.pointer none)) t2,ty,pos,aft,none⟩).run P w=.ok (.value (.bool (!p.isNone))) w:=by
 have o:=Vh hT ht hk rfl;have h:∀ d:Nat,(Op.equalIn (d+1) t (.pointer p) (.pointer none)).run P w=.ok p.isNone w:=λd=>by cases p<;>simp [Op.equalIn,run_underlying o]
 have u:a.eval (.const (.pointer none))=.pointer none:=rfl;simp [execOp,ha.ev hx,u,eqGuard,binOp,Op.equal,Op.maxDepth,h 9999]
theorem pnl[h:Tab P tt](kk:WL P n ops Q rest ((d,.bool p.isNone)::al) w)(ht:tk tt t=some k:=by rfl)(hk:k.desc=.pointer e:=by rfl)(hx:ev al x=some (.pointer p):=by rfl)(hd:Nat.blt d n=true:=by rfl):
  WL P n ops Q (⟨some d,.binOp .eql t x (.const (.pointer none)) t2,ty,pos,aft,none⟩::rest) al w:=wop hd (λa o=>Jpw h.ok ht hk o hx (some d) w) kk
theorem dpnl[h:Tab P tt](kk:WD P n ops Q drest ((d,.bool p.isNone)::al) w)(ht:tk tt t=some k:=by rfl)(hk:k.desc=.pointer e:=by rfl)(hx:ev al x=some (.pointer p):=by rfl)(hd:Nat.blt d n=true:=by rfl):
  WD P n ops Q ((0,⟨some d,.binOp .eql t x (.const (.pointer none)) t2,ty,pos,aft,none⟩)::drest) al w:=dy (λw' _ a o=>Jpw h.ok ht hk o hx (some d) w') hd kk
theorem pnn[h:Tab P tt](kk:WL P n ops Q rest ((d,.bool (!p.isNone))::al) w)(ht:tk tt t=some k:=by rfl)(hk:k.desc=.pointer e:=by rfl)(hx:ev al x=some (.pointer p):=by rfl)(hd:Nat.blt d n=true:=by rfl):
  WL P n ops Q (⟨some d,.binOp .neq t x (.const (.pointer none)) t2,ty,pos,aft,none⟩::rest) al w:=wop hd (λa o=>Jpv h.ok ht hk o hx (some d) w) kk
theorem dpnn[h:Tab P tt](kk:WD P n ops Q drest ((d,.bool (!p.isNone))::al) w)(ht:tk tt t=some k:=by rfl)(hk:k.desc=.pointer e:=by rfl)(hx:ev al x=some (.pointer p):=by rfl)(hd:Nat.blt d n=true:=by rfl):
  WD P n ops Q ((0,⟨some d,.binOp .neq t x (.const (.pointer none)) t2,ty,pos,aft,none⟩)::drest) al w:=dy (λw' _ a o=>Jpv h.ok ht hk o hx (some d) w') hd kk
theorem nixa[h:Tab P tt]{t e:Nat}{p:Addr}{kd:IntKind}{z:Int}(j:Nat)(hlt:j<m)(kk:WN N P n ops Q drest ((d,.pointer (some (p.add (j*k.esz))))::al) w)(ht:tk tt t=some k:=by rfl)(hk:k.desc=.array m e:=by rfl)(hx:ev al x=some (.pointer (some p)):=by rfl)(hi:ev al i=some (.int kd z):=by rfl)(hj:z=(j:Int):=by first|rfl|omega)(hd:Nat.blt d n=true:=by rfl): WN N P n ops Q ((0,⟨some d,.indexAddr t x i,ty,pos,aft,none⟩)::drest) al w :=
 ny_ (λw' _ a o=>Jdp h.ok j ht hk hlt o hx hi hj (some d) w') hd kk
theorem stB[h:Tab P tt]{t bt:Nat}{p:Addr}(hb:Blk w g bt cs)(ho:o+us.length<=cs.length)(h1:∀ u∈us,u.oneCell'=true)(kk:∀ w1,Blk w1 g bt (cs.take o++us++cs.drop (o+us.length))->w.grownBy w1 (some g)->WL P n ops Q rest al w1)(ht:tk tt t=some k:=by rfl)(hk:k.desc=.invalid:=by rfl)(hs:k.size=us.length:=by rfl)(hx:ev al x=some (.pointer (some p)):=by rfl)(hp:p=⟨g,o,none⟩:=by rfl)(hy:ev al y=some (.agg us.toArray):=by rfl):
  WL P n ops Q (⟨none,.store t x y,ty,pos,aft,none⟩::rest) al w:=by
 subst hp;have O:=Jjp w g (cs.take o++us++cs.drop (o+us.length)).toArray;have C:=run_storeCells_at (P:=P) g o bt us 0 cs.toArray w hb (by simpa using ho) h1;simp only [Nat.add_zero]at C;refine Iy (λa J=>?_) (kk (w.setRow g (cs.take o++us++cs.drop (o+us.length)).toArray) (setRow_heap w g _ _ _ _ hb) O);have G:=Vw w (Jqp h.ok ht hk w).2;simp [execOp,J.ev hx,J.ev hy,Instr.storeAt,Instr.sureAddr,storeVar,Value.cells,G,hs,C]
end
theorem Jmn{P:Program}{al:AL}{Q Q':Exit->Act->World->Prop}{ops:Array Oper}{α β:Type}{d:Code}{l:List Oper}(fr:α->β->AL)(I:α->β->World->Prop)(h1:WL P n ops (Exit.then (λa w=>∃ x y,Fr n (fr x y) a/\I x y w) Q) l al w)(h2:∀ x y w,I x y w->WC P n d Q' (fr x y) w): WL P n ops (Exit.then (d.wp P Q') Q) l al w:=by
 intro a u;refine Jwz ?_ l a w (h1 a u);intro e J w' o;cases e with
 | normal=>obtain ⟨x,y,G,C⟩:=o;exact h2 x y w' C J G
 | exit id=>exact o
 | goto l=>exact o
 | ret=>exact o
 | panic c=>exact o
 | outgrown=>exact o
theorem seg2(h:o+2<=cs.length): cs.take o++[u,v]++cs.drop (o+2)=(cs.set o u).set (o+1) v:=by
 apply List.ext_getElem?
 intro i;rw [List.getElem?_set,List.getElem?_set,List.append_assoc];rcases Nat.lt_trichotomy i o with hi|hi|hi
 .rw [List.getElem?_append_left (by rw [List.length_take];omega),List.getElem?_take,if_pos hi,if_neg om,if_neg om]
 .subst hi;rw [List.getElem?_append_right (by rw [List.length_take];omega),List.length_take,Nat.min_eq_left om,Nat.sub_self,if_neg om,if_pos rfl,if_pos om];rfl
 .rw [List.getElem?_append_right (by rw [List.length_take];omega),List.length_take,Nat.min_eq_left om];by_cases e:i=o+1
  .subst e;rw [Nat.add_sub_cancel_left,if_pos rfl,if_pos (by rw [List.length_set];omega)];rfl
  .rw [if_neg om,if_neg om,List.getElem?_append_right (by simp;omega),List.getElem?_drop];congr 1
   simp;omega
theorem Blk.sub(h:Blk w g t cs){i:Nat}(hv:cs[i+j]?=some v): w.cell? ((⟨g,i,none⟩:Addr).add j)=some v:=by rw [Vo,h.cell];exact hv
end Go.Wk
namespace Go.Proofs.YtebcagekopgdhaaGreatDoor
open Go.RowKit Pl Go.Wk
attribute [local irreducible] WC WL QX WD WDB WP WN
variable {d k:Nat}
def itC(A:Option Addr)(d L p e:Nat)(f h:Nat->Nat)(st:Int): List Value:=[.slice A d d,.int .i64 (L:Int),.int .i64 (p:Int),.int .i64 (e:Int)]++Zy 32 (λk=>.int .i64 (f k:Int)) (λk=>.int .i64 (h k:Int))++[.int .i64 st]
theorem Jyt(A:Option Addr)(d L p e:Nat)(f h:Nat->Nat)(st:Int): (itC A d L p e f h st).length=69:=by
 simp only [itC,List.length_append,Zq];rfl
theorem Jgr(A:Option Addr)(d L p e:Nat)(f h:Nat->Nat)(st:Int): (itC A d L p e f h st)[68]?=some (.int .i64 st):=by
 unfold itC;rw [List.getElem?_append_right (by rw [List.length_append,Zq];simp),List.length_append,Zq];rfl
theorem Qmf(A:Option Addr)(d L p e:Nat)(f h:Nat->Nat)(st st':Int): (itC A d L p e f h st).set 68 (.int .i64 st')=itC A d L p e f h st':=by
 unfold itC;rw [List.set_append_right _ _ (by rw [List.length_append,Zq];simp),List.length_append,Zq];rfl
theorem Qmh(A:Option Addr)(d L p e:Nat)(f h:Nat->Nat)(st:Int)(hk:k<32): (itC A d L p e f h st)[4+k*2]?=some (.int .i64 (f k:Int))/\(itC A d L p e f h st)[4+k*2+1]?=some (.int .i64 (h k:Int)):=by
 have o:=Gu 32 (λk=>.int .i64 (f k:Int)) (λk=>.int .i64 (h k:Int)) hk;unfold itC;constructor
 .rw [List.getElem?_append_left (by rw [List.length_append,Zq];simp;omega),List.getElem?_append_right (by simp)];rw [show 4+k*2 - [Value.slice A d d,.int .i64 (L:Int),.int .i64 (p:Int),.int .i64 (e:Int)].length=k*2 by simp];exact o.1
 .rw [List.getElem?_append_left (by rw [List.length_append,Zq];simp;omega),List.getElem?_append_right (by simp;omega)];rw [show 4+k*2+1 - [Value.slice A d d,.int .i64 (L:Int),.int .i64 (p:Int),.int .i64 (e:Int)].length=k*2+1 by simp;omega];exact o.2
theorem Jnd(f:Nat->Nat)(k x:Nat): (λj=>Value.int .i64 ((upd f k x j:Nat):Int))=upd (λj=>Value.int .i64 (f j:Int)) k (.int .i64 (x:Int)):=by
 funext j;unfold upd;split<;>rfl
theorem Qmg(A:Option Addr)(d L p e:Nat)(f h:Nat->Nat)(st:Int)(hk:k<32)(x y:Nat): ((itC A d L p e f h st).set (4+k*2) (.int .i64 (x:Int))).set (4+k*2+1) (.int .i64 (y:Int))=itC A d L p e (upd f k x) (upd h k y) st:=by
 unfold itC;have u:∀ (X:List Value),([Value.slice A d d,.int .i64 (L:Int),.int .i64 (p:Int),.int .i64 (e:Int)]++X).set (4+k*2) (.int .i64 (x:Int))=[Value.slice A d d,.int .i64 (L:Int),.int .i64 (p:Int),.int .i64 (e:Int)]++X.set (k*2) (.int .i64 (x:Int)):=λX=>by
  rw [List.set_append_right _ _ (by simp)];congr 2;simp
 have o:∀ (X:List Value),([Value.slice A d d,.int .i64 (L:Int),.int .i64 (p:Int),.int .i64 (e:Int)]++X).set (4+k*2+1) (.int .i64 (y:Int))=[Value.slice A d d,.int .i64 (L:Int),.int .i64 (p:Int),.int .i64 (e:Int)]++X.set (k*2+1) (.int .i64 (y:Int)):=λX=>by
  rw [List.set_append_right _ _ (by simp;omega)];congr 2;simp;omega
 rw [List.set_append_left _ _ (by rw [List.length_append,Zq];simp;omega),u,Qqp _ _ _ hk,List.set_append_left _ _ (by rw [List.length_append,Zq];simp;omega),o,Qqn _ _ _ hk,Jnd,Jnd]
abbrev ItB(w:World)(g:Nat)(A:Option Addr)(d L p e:Nat)(f h:Nat->Nat)(st:Int): Prop:=Blk w g 303 (itC A d L p e f h st)
def TriA(w:World)(A:Option Addr)(d:Nat)(rs:List Row): Prop:=∃ (vv fv:Nat->Value) (fs:Nat->List Nat),Rd w 2 A d (Zy d vv fv)/\(∀ l,l<d->∃ B c,vv l=.slice B (lvl rs l).length c/\RdR w B (lvl rs l)) /\
 (∀ l,l<d->∃ B c,fv l=.slice B (fs l).length c/\Rd w 1 B (fs l).length (Jt (nz (fs l))))/\∀ l,l+1<d->Chl rs l (fs l)
theorem TriV.a{w:World}{A:Option Addr}{rs:List Row}(h:TriV w (.agg #[.slice A d d]) d rs): TriA w A d rs:=by
 obtain ⟨C,vv,fv,fs,o,u⟩:=h;injection o with o
 have:Value.slice A d d=.slice C d d:=by simpa using o
 injection this with o
 subst o;exact ⟨vv,fv,fs,u⟩
theorem TriA.ext{w w':World}{A:Option Addr}{d:Nat}{rs:List Row}(h:TriA w A d rs)(hx:Ext w w'): TriA w' A d rs:=by
 obtain ⟨vv,fv,fs,O,J,G,C⟩:=h;refine ⟨vv,fv,fs,O.ext hx,λl u=>?_,λl u=>?_,C⟩
 .obtain ⟨B,c,e,o⟩:=J l u;exact ⟨B,c,e,Rd.ext o hx⟩
 .obtain ⟨B,c,e,o⟩:=G l u;exact ⟨B,c,e,o.ext hx⟩
section
variable {w:World} {g:Nat} {A:Option Addr} {d L p e:Nat} {f h:Nat->Nat} {st:Int}
theorem Jxd(hB:ItB w g A d L p e f h st): Ret Tryz.prog 226 [.pointer (some ⟨g,0,none⟩)] w λu w'=>u=.bool (decide (0<L/\p<e))/\Ext w w':=by
 refine Jz Tryz.func226 Tryz.ntmps226 rfl kr rfl ?_;refine ρ ?_;refine dr [(0,0),(0,1),(0,2),(0,3),(0,4),(0,5),(0,6),(0,7),(0,8),(0,9),(0,10),(0,11),(0,12),(0,13),(0,14),(0,15),(0,16),(0,17),(0,18),(0,19),(0,20),(0,21),(0,22)] kr ?_;have C:Ext w w.drew:=(Ext.refl w).drew;have o:=hB.ext C;refine ρd ?_;refine dpnn ?_;refine ρd ?_;refine dld (o.at (i:=1) rfl) ?_;refine ρd ?_;refine dki 12 (λG=>?_) (λG=>?_)
 .have J:0<L:=by have:=oT G;omega
  refine ρd ?_;refine dld (o.at (i:=2) rfl) ?_;refine ρd ?_;refine dld (o.at (i:=3) rfl) ?_;refine ρd ?_;refine ρ ?_;refine Jq ⟨?_,C⟩;congr 1
  exact decide_eq_decide.2 om
 .have J:¬ 0<L:=by have:=oF G;omega
  refine ρd ?_;refine ρ ?_;refine Jq ⟨?_,C⟩;congr 1
  exact (dF om).symm
end
end Go.Proofs.YtebcagekopgdhaaGreatDoor
