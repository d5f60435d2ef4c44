/- Part 2. -/
import Derived.Test.YtebcagekopgdhaaGreatDoorB01
import Derived.OrdersHeld
set_option linter.unusedVariables false
set_option maxRecDepth 100000
set_option maxHeartbeats 40000000
namespace Go.Wk
open Go.RowKit
section
variable {P:Program} {ops:Array Oper} {Q:Exit->Act->World->Prop} {T:Nat->Bool}
def QF(Q:Exit->Act->World->Prop): Exit->Act->World->Prop
 | .normal,a,w=>Q .normal a w
 | _,_,_=>False
theorem Yq{Q Q':Exit->Act->World->Prop}{o:Oper}{a:Act}{K:Act->World->Prop}(hp:∀ c a w,Q (.panic c) a w->Q' (.panic c) a w)(ho:LetsOut Q->LetsOut Q'){r:Result Next}(h:o.upon P a K Q r): o.upon P a K Q' r:=by
 cases r with
 | ok n w'=>
  cases n<;>simp only [Oper.upon]at h ⊢<;>first
   | exact h
   | exact Calls.mono h (λe C u=>by cases e<;>first|exact u|exact hp _ _ _ u|exact ho u)
 | halt x w'=>cases x<;>simp only [Oper.upon]at h ⊢<;>first|exact h|exact hp _ _ _ h
theorem Jjc{i:Nat}{K:Act->World->Prop}{a:Act}{w:World}(h:wpOp P ops (QF Q) i K a w): wpOp P ops Q i K a w:=by
 have u:¬ LetsOut (QF Q):=by rintro ⟨a,w,h⟩;exact h
 unfold wpOp at *;split
 .rename_i ho;simp only [ho]at h;exact h
 .rename_i o ho;simp only [ho]at h;split
  .rename_i hw;simp only [hw,if_true]at h;rcases h with h|⟨_,h⟩
   .exact .inl (Yq (Q:=QF Q) (λc a w C=>C.elim) (λC=>absurd C u) h)
   .exact absurd h u
  .rename_i hw;simp only [hw]at h;exact h
def unl(ops:Array Oper)(listed:Array Bool)(i:Nat): Prop:=i<ops.size/\listed.getD i true=false
def Yp(P:Program)(ops:Array Oper)(Q:Exit->Act->World->Prop)(T:Nat->Bool): Nat->Array Bool->Act->World->Prop
 | 0,listed,a,w=>Region.ready .any ops listed=[]/\Q .normal a w
 | fuel+1,listed,a,w=>
  ((∀ i,unl ops listed i->T i=true)/\wpAny P .any ops Q (fuel+1) listed a w) ∨
  ((Region.ready .any ops listed=[]->Q .normal a w) /\
   ∀ i∈Region.ready .any ops listed,wpOp P ops (QF Q) i (λa' w'=>Ext w w'/\Yp P ops Q T fuel (listed.setIfInBounds i true) a' w') a w)
theorem Jyr: ∀ (fuel:Nat) (listed:Array Bool) (a:Act) (w:World),Yp P ops Q T fuel listed a w->wpAny P .any ops Q fuel listed a w
 | 0,_,_,_,h=>h
 | fuel+1,_,_,_,h=>by
  rcases h with h|h
  .exact h.2
  .exact ⟨h.1,λi hi=>wpOp_mono (λa' w' h'=>Jyr fuel _ a' w' h'.2) (Jjc (h.2 i hi))⟩
def Gk(ops:Array Oper)(T:Nat->Bool): Bool:=(List.range ops.size).all λt=>!T t || (List.range ops.size).all λi=>T i || match ops[t]? with
 | some o=>o.after.any λe=>Region.binds .any e && e.on == i
 | none=>false
theorem Qwq(h:Gk ops T=true){t i:Nat}{o:Oper}(ho:ops[t]?=some o)(ht:T t=true)(hi:i<ops.size)(hn:T i=false): ∃ e∈o.after,Region.binds .any e=true/\e.on=i:=by
 have u:t<ops.size:=(Array.getElem?_eq_some_iff.1 ho).1;have J:=List.all_eq_true.1 h t (List.mem_range.2 u);simp only [ht,Bool.not_true,Bool.false_or]at J;have G:=List.all_eq_true.1 J i (List.mem_range.2 hi);simp only [hn,Bool.false_or,ho,Array.any_eq_true']at G;obtain ⟨e,O,C⟩:=G;simp only [Bool.and_eq_true,beq_iff_eq]at C;exact ⟨e,O,C.1,C.2⟩
theorem Jnl(hT:Gk ops T=true){listed:Array Bool}{i j:Nat}(hi:unl ops listed i)(hn:T i=false)(hj:j∈Region.ready .any ops listed): T j=false:=by
 cases h:T j with
 | false=>rfl
 | true=>
  obtain ⟨J,Z,G,o⟩:=mem_ready.1 hj;obtain ⟨e,O,U,C⟩:=Qwq hT G h hi.1 hn;have u:=o e O U;rw [C]at u;have h0:=hi.2;rcases Nat.lt_or_ge i listed.size with h'|h'
  .simp [h']at h0 u;rw [h0]at u;cases u
  .simp [Array.getElem?_eq_none h']at u
theorem Jhg(hT:Gk ops T=true){i:Nat}{oi:Oper}{v:Value}(hi:ops[i]?=some oi)(hn:T i=false)(hsel:∀ (j:Nat) (o:Oper) cs b,ops[j]?=some o->o.op≠.select cs b):
  ∀ (fuel:Nat) (listed:Array Bool) (a:Act) (w:World),
   (∀ j oj,ops[j]?=some oj->j≠i->listed.getD j true=false->(∀ e∈oj.after,Region.binds .any e=true->e.on≠i)->oi.apart ops oj=true) ->
   i∈Region.ready .any ops listed->YieldsIf P ops (Ext w) oi v a ->
   Yp P ops Q T fuel (listed.setIfInBounds i true) (a.put oi.dst v) w->Yp P ops Q T (fuel+1) listed a w:=by
 have a8:i<ops.size:=(Array.getElem?_eq_some_iff.1 hi).1;intro fuel;induction fuel with
 | zero=>
  intro listed a w _ O hy H;refine .inr ⟨λh=>(by rw [h]at O;cases O),λj hj=>?_⟩;by_cases hji:j=i
  .subst hji;exact hy.wpOp hi (Ext.refl w) ⟨Ext.refl w,H⟩
  .have:=ready_mono hj hji;rw [H.1]at this;cases this
 | succ fuel ih=>
  intro listed a w C O hy H;have a4:unl ops listed i:=⟨a8,(mem_ready.1 O).1⟩;refine .inr ⟨λh=>(by rw [h]at O;cases O),λj hj=>?_⟩;by_cases hji:j=i
  .subst hji;exact hy.wpOp hi (Ext.refl w) ⟨Ext.refl w,H⟩
  .obtain ⟨u,oj,G,a2⟩:=mem_ready.1 hj;have a7:T j=false:=Jnl hT a4 hn hj;rcases H with H|H
   .have:=H.1 j ⟨(Array.getElem?_eq_some_iff.1 G).1,by rw [getD_set_ne true (Ne.symm hji)];exact u⟩;rw [a7]at this;cases this
   .have U:=H.2 j (ready_mono hj hji);have a1:∀ e∈oj.after,Region.binds .any e=true->e.on≠i:=λe he hb a9=>by
     have U:=a2 e he hb;have h0:=(mem_ready.1 O).1;rw [a9]at U;rcases Nat.lt_or_ge i listed.size with h'|h'
     .simp [h']at h0 U;rw [h0]at U;cases U
     .simp [Array.getElem?_eq_none h']at U
    have h2:=wpOp_putIf G (C j oj G hji u a1) (λcs b=>hsel i oi cs b hi) (λcs b=>hsel j oj cs b G) (λc a w h=>h) hy U;have J:∀ k ok,ops[k]?=some ok->k≠i->(listed.setIfInBounds j true).getD k true=false ->
      (∀ e∈ok.after,Region.binds .any e=true->e.on≠i)->oi.apart ops ok=true:=λk ok hk a6 Z a5=>by
     refine C k ok hk a6 ?_ a5;by_cases hjk:j=k
     .subst hjk;exact u
     .rw [getD_set_ne true hjk]at Z;exact Z
    refine wpOp_mono (λa' w' h3=>⟨h3.2.1,ih (listed.setIfInBounds j true) a' w' J (ready_mono O (Ne.symm hji)) ?_ ?_⟩) h2
    .exact h3.1.imp (λ⟨h4,h5⟩=>⟨h4,λa3 hx=>h5 a3 (h3.2.1.trans hx)⟩) id
    .rw [Array.setIfInBounds_comm _ _ hji];exact h3.2.2
def Qm(ops:Array Oper): List (Nat×Nat)->Array Bool->Bool
 | [],listed=>(Region.ready .any ops listed).isEmpty
 | (0,i)::r,listed=>(Region.ready .any ops listed).contains i && Region.free .any ops listed i && Qm ops r (listed.setIfInBounds i true)
 | (_,i)::r,listed=>(Region.ready .any ops listed == [i]) && Qm ops r (listed.setIfInBounds i true)
def Ul(s:List (Nat×Nat))(i:Nat): Bool:=s.any λp=>p.1 == 2 && p.2 == i
def Jqq: List (Nat×Nat)->Bool
 | []=>true
 | (k,_)::r=>Nat.ble k 2 && (k != 2 || r.all λp=>p.1 == 2) && Jqq r
def Jxv(ops:Array Oper)(s:List (Nat×Nat)): Bool :=
 Region.noSelect ops && (s.length == ops.size) && Gk ops (Ul s) && Jqq s && (s.all λp=>(p.1 == 2) == Ul s p.2) && Qm ops s (Array.replicate ops.size false) && (s.all λp=>Nat.blt p.2 ops.size) && ((List.range ops.size).all λi=>s.any λp=>p.2 == i)
def wk1(P:Program)(ops:Array Oper)(Q:Exit->Act->World->Prop)(k:Nat)(o:Oper)(K:Act->World->Prop)(a:Act)(w:World): Prop :=
 match k with
 | 0=>∃ v,YieldsIf P ops (Ext w) o v a/\K (a.put o.dst v) w
 | 1=>if Region.wanted o (yielded ops a.tmps) then o.wp P a w (λa' w'=>Ext w w'/\K a' w') (QF Q) else K (a.put o.dst undef) w
 | _=>if Region.wanted o (yielded ops a.tmps) then o.wp P a w K (QF Q) else K (a.put o.dst undef) w
def Qc(P:Program)(ops:Array Oper)(Q:Exit->Act->World->Prop): List (Nat×Oper)->Act->World->Prop
 | [],a,w=>Q .normal a w
 | p::r,a,w=>wk1 P ops Q p.1 p.2 (Qc P ops Q r) a w
def Ja(l:List Oper): List (Nat×Nat)->List (Nat×Oper)
 | []=>[]
 | (k,i)::r=>match nth l i with
  | some o=>(k,o)::Ja l r
  | none=>Ja l r
theorem Jgx: ∀ (s:List (Nat×Nat)) (listed:Array Bool) (a:Act) (w:World),(∀ p∈s,p.1=2)->(∀ p∈s,p.2<ops.size)->Qm ops s listed=true->Qc P ops Q (Ja ops.toList s) a w->wpAny P .any ops Q s.length listed a w
 | [],listed,a,w,_,_,hB,h=>⟨by simpa [Qm] using hB,h⟩
 | (k,i)::r,listed,a,w,hk,hlt,hB,h=>by
  obtain rfl:k=2:=hk _ (mC ..);have hi:i<ops.size:=hlt _ (mC ..);simp only [Qm,Bool.and_eq_true,beq_iff_eq]at hB;obtain ⟨hr,hB'⟩:=hB;have ho:ops[i]?=some ops[i]:=Array.getElem?_eq_getElem hi;have hn:nth ops.toList i=some ops[i]:=by rw [Xq];simp [hi]
  simp only [Ja,hn,Qc,wk1]at h;refine ⟨λh0=>(by rw [hr]at h0;cases h0),λj hj=>?_⟩;rw [hr]at hj;obtain rfl:j=i:=by simpa using hj
  have hrec:∀ a w,Qc P ops Q (Ja ops.toList r) a w->wpAny P .any ops Q r.length (listed.setIfInBounds j true) a w:=λa w h'=>
   Jgx r _ a w (λp hp=>hk p (List.mem_cons_of_mem _ hp)) (λp hp=>hlt p (List.mem_cons_of_mem _ hp)) hB' h'
  refine wpOp_mono hrec (Jjc ?_);unfold wpOp;simp only [ho];split
  .rename_i hw;simp only [hw,if_true]at h;exact .inl h
  .rename_i hw;simp only [hw]at h;exact h
theorem Jhf(hsel:Region.noSelect ops=true)(hT:Gk ops T=true): ∀ (s:List (Nat×Nat)) (listed:Array Bool) (a:Act) (w:World),Jqq s=true->(∀ p∈s,p.2<ops.size)->(∀ p∈s,(p.1 == 2)=T p.2) ->
  (∀ i,unl ops listed i->∃ k,(k,i)∈s)->Qm ops s listed=true->Qc P ops Q (Ja ops.toList s) a w->Yp P ops Q T s.length listed a w
 | [],listed,a,w,_,_,_,_,hB,h=>⟨by simpa [Qm] using hB,h⟩
 | (k,i)::r,listed,a,w,hk,hlt,hKT,hall,hB,h=>by
  have hi:i<ops.size:=hlt _ (mC ..);have ho:ops[i]?=some ops[i]:=Array.getElem?_eq_getElem hi;have hn:nth ops.toList i=some ops[i]:=by rw [Xq];simp [hi]
  simp only [Jqq,Bool.and_eq_true]at hk;have hTi:=hKT _ (mC ..);simp only at hTi;have hall':∀ j,unl ops (listed.setIfInBounds i true) j->∃ k,(k,j)∈r:=λj hj=>by
   by_cases hji:j=i
   .subst hji;have h2:=hj.2;rcases Nat.lt_or_ge j listed.size with h'|h'
    .simp [h']at h2
    .simp at h2
   .obtain ⟨k',hk'⟩:=hall j ⟨hj.1,by rw [<-getD_set_ne true (Ne.symm hji)];exact hj.2⟩;rcases List.mem_cons.1 hk' with h'|h'
    .injection h' with _ h';exact absurd h' hji
    .exact ⟨k',h'⟩
  have hrec:Qm ops r (listed.setIfInBounds i true)=true->∀ a w,Qc P ops Q (Ja ops.toList r) a w->Yp P ops Q T r.length (listed.setIfInBounds i true) a w:=λhB' a w h'=>
   Jhf hsel hT r _ a w hk.2 (λp hp=>hlt p (List.mem_cons_of_mem _ hp)) (λp hp=>hKT p (List.mem_cons_of_mem _ hp)) hall' hB' h'
  match k,hTi,hk,hB,h with
  | 0,hTi,hk,hB,h=>
   simp only [Qm,Bool.and_eq_true]at hB;obtain ⟨⟨hr,hf⟩,hB'⟩:=hB;simp only [Ja,hn,Qc,wk1]at h;obtain ⟨v,hy,h⟩:=h;exact Jhg hT ho (by rw [<-hTi];rfl) (Region.noSelect_spec hsel) r.length listed a w (Region.free_spec ho hf) (by simpa using hr) hy (hrec hB' _ _ h)
  | 1,hTi,hk,hB,h=>
   simp only [Qm,Bool.and_eq_true,beq_iff_eq]at hB;obtain ⟨hr,hB'⟩:=hB;simp only [Ja,hn,Qc,wk1]at h;refine .inr ⟨λh0=>(by rw [hr]at h0;cases h0),λj hj=>?_⟩;rw [hr]at hj;obtain rfl:j=i:=by simpa using hj
   unfold wpOp;simp only [ho];split
   .rename_i hw;simp only [hw,if_true]at h;exact .inl (Oper.wp_mono (λa' w' h'=>⟨h'.1,hrec hB' _ _ h'.2⟩) h)
   .rename_i hw;simp only [hw]at h;exact ⟨Ext.refl w,hrec hB' _ _ h⟩
  | 2,hTi,hk,hB,h=>
   refine .inl ⟨λj hj=>?_,Jgx ((2,i)::r) listed a w ?_ hlt hB h⟩
   .obtain ⟨k',hk'⟩:=hall j hj;have h1:=hKT _ hk';simp only at h1;rw [<-h1];rcases List.mem_cons.1 hk' with h'|h'
    .injection h' with h' _;rw [h'];rfl
    .have:=hk.1.2;simp only [bne_self_eq_false,Bool.false_or,List.all_eq_true]at this;exact this _ h'
   .intro p hp;rcases List.mem_cons.1 hp with h'|h'
    .rw [h']
    .have:=hk.1.2;simp only [bne_self_eq_false,Bool.false_or,List.all_eq_true]at this;simpa using this _ h'
  | k+3,hTi,hk,hB,h=>
   have:=hk.1.1;simp at this
end
section
variable {P:Program} {n:Nat} {al al':AL} {w:World} {Q:Exit->Act->World->Prop} {ops:Array Oper} {rest:List (Nat×Oper)}
def WD(P:Program)(n:Nat)(ops:Array Oper)(Q:Exit->Act->World->Prop)(l:List (Nat×Oper))(al:AL)(w:World): Prop:=∀ a,Fr n al a->Qc P ops Q l a w
theorem WD.sub{l:List (Nat×Oper)}(hs:Sub al' al)(h:WD P n ops Q l al' w): WD P n ops Q l al w:=λa o=>h a (o.sub hs)
theorem wdraw{id:Nat}{l:List Oper}(s:List (Nat×Nat))(hm:P.follows .mixedOrders=true)(hB:Jxv l.toArray s=true)(h:WD P n l.toArray Q (Ja l s) al w.drew): WC P n (.region id l.toArray true) Q al w:=by
 intro a G;simp only [Jxv,Bool.and_eq_true,beq_iff_eq,List.all_eq_true,List.any_eq_true,List.mem_range]at hB;obtain ⟨⟨⟨⟨⟨⟨⟨h1,u⟩,h3⟩,h4⟩,Z⟩,U⟩,O⟩,J⟩:=hB;refine wp_region_any hm ?_;rw [<-u];refine Jyr (T:=Ul s) _ _ _ _ (Jhf h1 h3 s _ a _ h4 (λp o=>?_) (λp o=>?_) (λi hi=>?_) (by rw [u];exact U) ?_)
 .have:=O p o;have h':p.2+1<=l.toArray.size:=by simpa [Nat.blt] using this
  omega
 .simpa using Z p o
 .obtain ⟨p,o,C⟩:=J i hi.1;exact ⟨p.1,by rw [<-C];exact o⟩
 .have:=h a G;simpa using this
theorem Uw(h:QX n Q .normal al w): WD P n ops Q [] al w:=λa o=>h a o
variable {d ty:Nat} {op:Op} {pos:String} {aft:Array Edge}
def Yld(P:Program)(n:Nat)(al:AL)(w:World)(o:Oper)(v:Value): Prop:=∀ w',Ext w w'->∀ a,Fr n al a->(execOp a.eval o).run P w'=.ok (.value v) w'
theorem dy{v:Value}(hy:Yld P n al w ⟨some d,op,ty,pos,aft,none⟩ v)(hd:Nat.blt d n=true)(k:WD P n ops Q rest ((d,v)::al) w): WD P n ops Q ((0,⟨some d,op,ty,pos,aft,none⟩)::rest) al w:=λa u=>by
 have o:d<n:=by (have:d+1<=n:=by simpa [Nat.blt] using hd);(omega)
 exact ⟨v,.inl ⟨rfl,λw' C=>hy w' C a u⟩,k _ (u.put o v)⟩
theorem dp{tt:TT}(hT:TOk P tt){v:Value}(hv:pv tt (ev al) op=some v)(hd:Nat.blt d n=true)(k:WD P n ops Q rest ((d,v)::al) w): WD P n ops Q ((0,⟨some d,op,ty,pos,aft,none⟩)::rest) al w :=
 dy (λw' _ a C=>Gb w' hT (λx u o=>C.ev o) hv) hd k
theorem dpn{tt:TT}(hT:TOk P tt){v:Value}(hv:pv tt (ev al) op=some v)(k:WD P n ops Q rest al w): WD P n ops Q ((0,⟨none,op,ty,pos,aft,none⟩)::rest) al w:=λa C=>
 ⟨v,.inl ⟨rfl,λw' o=>Gb w' hT (λx u o=>C.ev o) hv⟩,k _ C⟩
theorem Qlk{kd:Nat}{dst:Option Nat}{j s:Nat}{b:Bool}(hj:Zg ops j=some s)(hs:lk al s=some (.bool b))(k:WD P n ops Q ((kd,⟨dst,op,ty,pos,aft,none⟩)::rest) al w):
  WD P n ops Q ((kd,⟨dst,op,ty,pos,aft,some (j,b)⟩)::rest) al w:=λa G=>by
 have h:=k a G;have J:=Jjb (ops:=ops) G hj hs;have C:Region.wanted (⟨dst,op,ty,pos,aft,none⟩:Oper) (yielded ops a.tmps)=true:=rfl;have u:Region.wanted (⟨dst,op,ty,pos,aft,some (j,b)⟩:Oper) (yielded ops a.tmps)=true:=by simp [Region.wanted,J]
 unfold Qc wk1 at h ⊢;match kd,h with
 | 0,h=>
  obtain ⟨v,o,O⟩:=h;refine ⟨v,?_,O⟩;rcases o with o|o
  .exact .inl ⟨u,o.2⟩
  .exact absurd o.1 (by rw [C];simp)
 | 1,h=>simp only [C,if_true]at h;simp only [u,if_true];exact h
 | k+2,h=>simp only [C,if_true]at h;simp only [u,if_true];exact h
theorem dpass{kd:Nat}{j s:Nat}{b c:Bool}(hj:Zg ops j=some s)(hs:lk al s=some (.bool b))(hne:(b == c)=false)(hd:Nat.blt d n=true)(k:WD P n ops Q rest ((d,undef)::al) w):
  WD P n ops Q ((kd,⟨some d,op,ty,pos,aft,some (j,c)⟩)::rest) al w:=λa G=>by
 have o:d<n:=by (have:d+1<=n:=by simpa [Nat.blt] using hd);(omega)
 have J:=Jjb (ops:=ops) G hj hs;have C:Region.wanted (⟨some d,op,ty,pos,aft,some (j,c)⟩:Oper) (yielded ops a.tmps)=false:=by
  simp [Region.wanted,J];simpa using hne
 have u:=k _ (G.put o undef);unfold Qc wk1;match kd with
 | 0=>exact ⟨undef,.inr ⟨C,rfl⟩,u⟩
 | 1=>simp only [C];exact u
 | m+2=>simp only [C];exact u
theorem dpart{l:List (Nat×Oper)}{b:Bool}(s:Nat)(hs:lk al s=some (.bool b))(ht:b=true->WD P n ops Q l ((s,.bool true)::al) w)(hf:b=false->WD P n ops Q l ((s,.bool false)::al) w): WD P n ops Q l al w:=by
 cases b
 .exact (hf rfl).sub (Sub.cons hs Sub.refl)
 .exact (ht rfl).sub (Sub.cons hs Sub.refl)
theorem dknow{l:List (Nat×Oper)}{v:Value}(s:Nat)(u:Value)(hs:lk al s=some v)(hv:v=u)(k:WD P n ops Q l ((s,u)::al) w): WD P n ops Q l al w:=by
 subst hv;exact k.sub (Sub.cons hs Sub.refl)
theorem dcall{f:FuncId}{xs:Array Operand}{ats:Array TypeId}{vs:List Value}{Φ:Value->World->Prop}(hx:evs al xs.toList=some vs)(hd:Nat.blt d n=true)(hc:Ret P f vs w Φ)(k:∀ v w',Φ v w'->Ext w w'/\WD P n ops Q rest ((d,v)::al) w'): WD P n ops Q ((1,⟨some d,.call { callee:=.value (.func f),args:=xs,argTypes:=ats },ty,pos,aft,none⟩)::rest) al w:=λa C=>by
 have o:d<n:=by (have:d+1<=n:=by simpa [Nat.blt] using hd);(omega)
 have J:xs.map a.eval=vs.toArray:=by rw [<-C.evs hx,<-List.map_toArray,Array.toArray_toList]
 have G:(execOp a.eval ⟨some d,.call { callee:=.value (.func f),args:=xs,argTypes:=ats },ty,pos,aft,none⟩).run P w=.ok (.enter f vs.toArray) w:=by
  simp [execOp,resolve,J,Act.eval,Deferred.ofValue,invoke,Jwf hc.ok]
 unfold Qc wk1;have O:Region.wanted (⟨some d,.call { callee:=.value (.func f),args:=xs,argTypes:=ats },ty,pos,aft,none⟩:Oper) (yielded ops a.tmps)=true:=rfl;simp only [O,if_true];exact Jvp G hc λv w' u=>⟨(k v w' u).1,(k v w' u).2 _ (C.put o v)⟩
variable {tt:TT}
theorem Jtf{w w':World}(hx:Ext w w'){p:Addr}{v:Value}(hc:w.cell? p=some v): w'.cell? p=some v:=by
 rw [<-hc];exact hx.cell (World.block_lt_of_cell? w p hc)
theorem dload(hT:TOk P tt){x:Operand}{t:Nat}{k:TK}{p:Addr}{v:Value}(ht:tk tt t=some k)(hk:Vy k.desc=true)(hx:ev al x=some (.pointer (some p)))(hc:w.cell? p=some v)(hd:Nat.blt d n=true)(kk:WD P n ops Q rest ((d,v)::al) w): WD P n ops Q ((0,⟨some d,.load t x,ty,pos,aft,none⟩)::rest) al w :=
 dy (λw' o a u=>by simp [execOp,u.ev hx,Instr.loadAt,Instr.sureAddr,Jmt (w:=w') hT ht hk (Jtf o hc)]) hd kk
theorem Qlc(hT:TOk P tt){x:Operand}{t:Nat}{k:TK}{p:Addr}{cs:List Value}(ht:tk tt t=some k)(hk:k.desc=.invalid)(hl:k.size=cs.length)(hx:ev al x=some (.pointer (some p)))(hc:∀ j u,cs[j]?=some u->w.cell? (p.add j)=some u)(hd:Nat.blt d n=true)(kk:WD P n ops Q rest ((d,.agg cs.toArray)::al) w): WD P n ops Q ((0,⟨some d,.load t x,ty,pos,aft,none⟩)::rest) al w :=
 dy (λw' C a G=>by simp [execOp,G.ev hx,Instr.loadAt,Instr.sureAddr,Iz (w:=w') hT ht hk hl (λj u o=>Jtf C (hc j u o))]) hd kk
theorem Jtl(hT:TOk P tt){x i:Operand}{t e sz:Nat}{k:TK}{A:Option Addr}{m c:Nat}{kd:IntKind}{z:Int}{cs:List Value}(q:Nat)(j:Nat)(ht:tk tt t=some k)(hk:k.desc=.slice e)(hz:k.esz=sz)(hx:ev al x=some (.slice A m c))(hi:ev al i=some (.int kd z))(hr:Rd w sz A m cs)(hj:z=(j:Int))(hlt:j<m)(h0:0<sz)(hq:j*sz=q)(hd:Nat.blt d n=true)(kk:WD P n ops Q rest ((d,.pointer (some (adr A q)))::al) w): WD P n ops Q ((0,⟨some d,.indexAddr t x i,ty,pos,aft,none⟩)::rest) al w:=by
 obtain ⟨u,C⟩:=Kx hT ht hk hz;obtain ⟨O,rfl,J⟩:=hr.isome om h0;subst hj;subst hq;refine dy (λw' G a o=>?_) hd kk;simp [execOp,o.ev hx,o.ev hi,Instr.indexAt,asIntOf,run_underlying u,Ze w' C,adr];intro h;omega
theorem Qlh(hT:TOk P tt){x i:Operand}{t e:Nat}{k:TK}{A:Option Addr}{m c:Nat}{kd:IntKind}{z:Int}{cs:List Value}(j:Nat)(ht:tk tt t=some k)(hk:k.desc=.slice e)(hz:k.esz=1)(hx:ev al x=some (.slice A m c))(hi:ev al i=some (.int kd z))(hr:Rd w 1 A m cs)(hj:z=(j:Int))(hlt:j<m)(hd:Nat.blt d n=true)(kk:WD P n ops Q rest ((d,.pointer (some (adr A j)))::al) w): WD P n ops Q ((0,⟨some d,.indexAddr t x i,ty,pos,aft,none⟩)::rest) al w :=
 Jtl hT j j ht hk hz hx hi hr hj hlt om om hd kk
theorem dadd{x y:Operand}{t yt:TypeId}{a b:Int}(hx:ev al x=some (.int .i64 a))(hy:ev al y=some (.int .i64 b))(hc:-9223372036854775808<=a+b/\a+b<=9223372036854775807)(hd:Nat.blt d n=true)(k:WD P n ops Q rest ((d,.int .i64 (a+b))::al) w): WD P n ops Q ((0,⟨some d,.binOp .add t x y yt,ty,pos,aft,none⟩)::rest) al w:=by
 have e:IntKind.i64.wrap (a+b)=a+b:=by rw [IntKind.wrap_i64];omega
 exact dp (tt:=[]) trivial (v:=.int .i64 (a+b)) (by simp only [pv,hx,hy,bop,if_true,e]) hd k
theorem dsub{x y:Operand}{t yt:TypeId}{a b:Int}(hx:ev al x=some (.int .i64 a))(hy:ev al y=some (.int .i64 b))(hc:-9223372036854775808<=a-b/\a-b<=9223372036854775807)(hd:Nat.blt d n=true)(k:WD P n ops Q rest ((d,.int .i64 (a-b))::al) w): WD P n ops Q ((0,⟨some d,.binOp .sub t x y yt,ty,pos,aft,none⟩)::rest) al w:=by
 have e:IntKind.i64.wrap (a-b)=a-b:=by rw [IntKind.wrap_i64];omega
 exact dp (tt:=[]) trivial (v:=.int .i64 (a-b)) (by simp only [pv,hx,hy,bop,if_true,e]) hd k
end
end Go.Wk
namespace Go.Wk
open Go.RowKit
class Tab (P:Program) (tt:outParam TT):Prop where
 ok:TOk P tt
 mixed:P.follows .mixedOrders=true
section
variable {P:Program} {n:Nat} {al:AL} {w:World} {Q Q':Exit->Act->World->Prop} {ops:Array Oper} {rest:List Oper} {drest:List (Nat×Oper)}
variable {d ty:Nat} {op:Op} {pos:String} {aft:Array Edge} {tt:TT}
theorem κ1{x y:Code}(h:WC P n x (Exit.then (y.wp P Q) Q) al w): WC P n (.seq x y) Q al w:=wseq h
theorem κ2{id:Nat}{l:List Oper}(h:WL P n l.toArray Q l al w): WC P n (.region id l.toArray false) Q al w:=Qzm h
theorem κ3{id:Nat}{c:Code}(h:WC P n c (Exit.inBlock id Q) al w): WC P n (.block id c) Q al w:=Qkh h
theorem κ4(h:QX n Q .normal al w): WC P n .skip Q al w:=wskip h
theorem κ5{id:Nat}(h:QX n Q (.exit id) al w): WC P n (.exit id) Q al w:=wexit h
theorem κ6(h:QX n Q .ret al w): WC P n .ret Q al w:=wret h
theorem κ7{c:Operand}{x y:Code}(h:WC P n x Q al w)(hc:ev al c=some (.bool true):=by rfl): WC P n (.cond c x y) Q al w:=Jhp hc h
theorem κ8{c:Operand}{x y:Code}(h:WC P n y Q al w)(hc:ev al c=some (.bool false):=by rfl): WC P n (.cond c x y) Q al w:=Jhq hc h
theorem χ1{y:Code}(h:WC P n y Q' al w): QX n (Exit.then (y.wp P Q') Q) .normal al w:=qnext h
theorem χ2{id:Nat}(h:QX n Q .normal al w): QX n (Exit.inBlock id Q) .normal al w:=Qnb h
theorem χ3{y:Act->World->Prop}(h:QX n Q .ret al w): QX n (Exit.then y Q) .ret al w:=qret h
theorem χ4{id:Nat}(h:QX n Q .ret al w): QX n (Exit.inBlock id Q) .ret al w:=bret h
theorem χ5{id:Nat}(h:QX n Q .normal al w): QX n (Exit.inBlock id Q) (.exit id) al w:=bexit h
theorem χ6{id id':Nat}(h:QX n Q (.exit id') al w)(hne:Nat.beq id' id=false:=by rfl): QX n (Exit.inBlock id Q) (.exit id') al w:=Qmz hne h
theorem χ7{y:Act->World->Prop}{id:Nat}(h:QX n Q (.exit id) al w): QX n (Exit.then y Q) (.exit id) al w:=qexit h
theorem ω1{x y:Operand}{t yt:TypeId}{a b:Int}(k:WL P n ops Q rest ((d,.int .i64 (a+b))::al) w)(hx:ev al x=some (.int .i64 a):=by rfl)(hy:ev al y=some (.int .i64 b):=by rfl)(hd:Nat.blt d n=true:=by rfl)(hc:-9223372036854775808<=a+b/\a+b<=9223372036854775807:=by omega):
  WL P n ops Q (⟨some d,.binOp .add t x y yt,ty,pos,aft,none⟩::rest) al w:=wadd hx hy hc hd k
theorem ω2{x y:Operand}{t yt:TypeId}{a b:Int}(k:WL P n ops Q rest ((d,.int .i64 (a-b))::al) w)(hx:ev al x=some (.int .i64 a):=by rfl)(hy:ev al y=some (.int .i64 b):=by rfl)(hd:Nat.blt d n=true:=by rfl)(hc:-9223372036854775808<=a-b/\a-b<=9223372036854775807:=by omega):
  WL P n ops Q (⟨some d,.binOp .sub t x y yt,ty,pos,aft,none⟩::rest) al w:=wsub hx hy hc hd k
theorem ω3{x y:Operand}{t yt:TypeId}{a b:Int}(k:WL P n ops Q rest ((d,.int .i64 (a*b))::al) w)(hx:ev al x=some (.int .i64 a):=by rfl)(hy:ev al y=some (.int .i64 b):=by rfl)(hd:Nat.blt d n=true:=by rfl)(hc:-9223372036854775808<=a*b/\a*b<=9223372036854775807:=by omega):
  WL P n ops Q (⟨some d,.binOp .mul t x y yt,ty,pos,aft,none⟩::rest) al w:=wmul hx hy hc hd k
theorem ω4[h:Tab P tt]{v:Value}(k:WL P n ops Q rest ((d,v)::al) w)(hv:pv tt (ev al) op=some v:=by rfl)(hd:Nat.blt d n=true:=by rfl): WL P n ops Q (⟨some d,op,ty,pos,aft,none⟩::rest) al w:=wp h.ok hv hd k
theorem ω5(h:QX n Q .normal al w): WL P n ops Q [] al w:=Jh h
theorem ω6{dst:Option Nat}{j s:Nat}{b:Bool}(k:WL P n ops Q (⟨dst,op,ty,pos,aft,none⟩::rest) al w)(hj:Zg ops j=some s:=by rfl)(hs:lk al s=some (.bool b):=by rfl): WL P n ops Q (⟨dst,op,ty,pos,aft,some (j,b)⟩::rest) al w:=Qzv hj hs k
theorem ω7{j s:Nat}{b c:Bool}(k:WL P n ops Q rest ((d,undef)::al) w)(hj:Zg ops j=some s:=by rfl)(hs:lk al s=some (.bool b):=by rfl)(hne:(b == c)=false:=by rfl)(hd:Nat.blt d n=true:=by rfl):
  WL P n ops Q (⟨some d,op,ty,pos,aft,some (j,c)⟩::rest) al w:=wpass hj hs hne hd k
theorem ω8[h:Tab P tt]{v:Value}(k:WL P n ops Q rest al w)(hv:pv tt (ev al) op=some v:=by rfl): WL P n ops Q (⟨none,op,ty,pos,aft,none⟩::rest) al w:=wpn h.ok hv k
theorem Jyl{a:Act}(ha:Fr n al a){j s:Nat}(hj:Zg ops j=some s)(hs:lk al s=some undef): yielded ops a.tmps j=none:=by
 unfold Zg at hj;rw [Xq]at hj;split at hj
 .rename_i o ho;have C:ops[j]?=some o:=by rw [<-ho];simp
  have:=ha.has s _ hs;simp only [Array.getD_eq_getD_getElem?]at this;cases hq:a.tmps[s]? with
  | none=>simp [yielded,C,hj,hq]
  | some u=>
   rw [hq]at this;simp only [Option.getD_some]at this;subst this;simp [yielded,C,hj,hq,undef]
 .cases hj
theorem ω9{j s:Nat}{c:Bool}(k:WL P n ops Q rest ((d,undef)::al) w)(hj:Zg ops j=some s:=by rfl)(hs:lk al s=some undef:=by rfl)(hd:Nat.blt d n=true:=by rfl):
  WL P n ops Q (⟨some d,op,ty,pos,aft,some (j,c)⟩::rest) al w:=λa u=>by
 have o:d<n:=by (have:d+1<=n:=by simpa [Nat.blt] using hd);(omega)
 have C:=Jyl (ops:=ops) u hj hs;unfold wpList;have G:¬ Region.wanted (⟨some d,op,ty,pos,aft,some (j,c)⟩:Oper) (yielded ops a.tmps)=true:=by simp [Region.wanted,C]
 rw [if_neg G];exact k _ (u.put o undef)
theorem δ9{kd:Nat}{j s:Nat}{c:Bool}(k:WD P n ops Q drest ((d,undef)::al) w)(hj:Zg ops j=some s:=by rfl)(hs:lk al s=some undef:=by rfl)(hd:Nat.blt d n=true:=by rfl):
  WD P n ops Q ((kd,⟨some d,op,ty,pos,aft,some (j,c)⟩)::drest) al w:=λa G=>by
 have o:d<n:=by (have:d+1<=n:=by simpa [Nat.blt] using hd);(omega)
 have J:=Jyl (ops:=ops) G hj hs;have C:Region.wanted (⟨some d,op,ty,pos,aft,some (j,c)⟩:Oper) (yielded ops a.tmps)=false:=by simp [Region.wanted,J]
 have u:=k _ (G.put o undef);unfold Qc wk1;match kd with
 | 0=>exact ⟨undef,.inr ⟨C,rfl⟩,u⟩
 | 1=>simp only [C];exact u
 | m+2=>simp only [C];exact u
theorem δ1{x y:Operand}{t yt:TypeId}{a b:Int}(k:WD P n ops Q drest ((d,.int .i64 (a+b))::al) w)(hx:ev al x=some (.int .i64 a):=by rfl)(hy:ev al y=some (.int .i64 b):=by rfl)(hd:Nat.blt d n=true:=by rfl)(hc:-9223372036854775808<=a+b/\a+b<=9223372036854775807:=by omega):
  WD P n ops Q ((0,⟨some d,.binOp .add t x y yt,ty,pos,aft,none⟩)::drest) al w:=dadd hx hy hc hd k
theorem δ2{x y:Operand}{t yt:TypeId}{a b:Int}(k:WD P n ops Q drest ((d,.int .i64 (a-b))::al) w)(hx:ev al x=some (.int .i64 a):=by rfl)(hy:ev al y=some (.int .i64 b):=by rfl)(hd:Nat.blt d n=true:=by rfl)(hc:-9223372036854775808<=a-b/\a-b<=9223372036854775807:=by omega):
  WD P n ops Q ((0,⟨some d,.binOp .sub t x y yt,ty,pos,aft,none⟩)::drest) al w:=dsub hx hy hc hd k
theorem δ4[h:Tab P tt]{v:Value}(k:WD P n ops Q drest ((d,v)::al) w)(hv:pv tt (ev al) op=some v:=by rfl)(hd:Nat.blt d n=true:=by rfl): WD P n ops Q ((0,⟨some d,op,ty,pos,aft,none⟩)::drest) al w:=dp h.ok hv hd k
theorem δ5(h:QX n Q .normal al w): WD P n ops Q [] al w:=Uw h
theorem δ6{kd:Nat}{dst:Option Nat}{j s:Nat}{b:Bool}(k:WD P n ops Q ((kd,⟨dst,op,ty,pos,aft,none⟩)::drest) al w)(hj:Zg ops j=some s:=by rfl)(hs:lk al s=some (.bool b):=by rfl): WD P n ops Q ((kd,⟨dst,op,ty,pos,aft,some (j,b)⟩)::drest) al w:=Qlk hj hs k
theorem δ7{kd:Nat}{j s:Nat}{b c:Bool}(k:WD P n ops Q drest ((d,undef)::al) w)(hj:Zg ops j=some s:=by rfl)(hs:lk al s=some (.bool b):=by rfl)(hne:(b == c)=false:=by rfl)(hd:Nat.blt d n=true:=by rfl):
  WD P n ops Q ((kd,⟨some d,op,ty,pos,aft,some (j,c)⟩)::drest) al w:=dpass hj hs hne hd k
theorem δ8[h:Tab P tt]{v:Value}(k:WD P n ops Q drest al w)(hv:pv tt (ev al) op=some v:=by rfl): WD P n ops Q ((0,⟨none,op,ty,pos,aft,none⟩)::drest) al w:=dpn h.ok hv k
theorem ct{c:Operand}{x y:Code}{b:Bool}(hb:b=true)(h:WC P n x Q al w)(hc:ev al c=some (.bool b):=by rfl): WC P n (.cond c x y) Q al w:=Qkb hc hb h
theorem cf{c:Operand}{x y:Code}{b:Bool}(hb:b=false)(h:WC P n y Q al w)(hc:ev al c=some (.bool b):=by rfl): WC P n (.cond c x y) Q al w:=Qzz hc hb h
theorem ci{c:Operand}{x y:Code}{b:Bool}(ht:b=true->WC P n x Q al w)(hf:b=false->WC P n y Q al w)(hc:ev al c=some (.bool b):=by rfl): WC P n (.cond c x y) Q al w:=wcond hc ht hf
theorem kt{l:List Oper}{b:Bool}(s:Nat)(hb:b=true)(k:WL P n ops Q l ((s,.bool true)::al) w)(hs:lk al s=some (.bool b):=by rfl): WL P n ops Q l al w:=wkt s hs hb k
theorem kf{l:List Oper}{b:Bool}(s:Nat)(hb:b=false)(k:WL P n ops Q l ((s,.bool false)::al) w)(hs:lk al s=some (.bool b):=by rfl): WL P n ops Q l al w:=wkf s hs hb k
theorem ki{l:List Oper}{b:Bool}(s:Nat)(ht:b=true->WL P n ops Q l ((s,.bool true)::al) w)(hf:b=false->WL P n ops Q l ((s,.bool false)::al) w)(hs:lk al s=some (.bool b):=by rfl): WL P n ops Q l al w:=wpart s hs ht hf
theorem kv{l:List Oper}{v u:Value}(s:Nat)(hv:v=u)(k:WL P n ops Q l ((s,u)::al) w)(hs:lk al s=some v:=by rfl): WL P n ops Q l al w:=wknow s u hs hv k
theorem dkt{l:List (Nat×Oper)}{b:Bool}(s:Nat)(hb:b=true)(k:WD P n ops Q l ((s,.bool true)::al) w)(hs:lk al s=some (.bool b):=by rfl): WD P n ops Q l al w:=by subst hb;exact k.sub (Sub.cons hs Sub.refl)
theorem dkf{l:List (Nat×Oper)}{b:Bool}(s:Nat)(hb:b=false)(k:WD P n ops Q l ((s,.bool false)::al) w)(hs:lk al s=some (.bool b):=by rfl): WD P n ops Q l al w:=by subst hb;exact k.sub (Sub.cons hs Sub.refl)
theorem dki{l:List (Nat×Oper)}{b:Bool}(s:Nat)(ht:b=true->WD P n ops Q l ((s,.bool true)::al) w)(hf:b=false->WD P n ops Q l ((s,.bool false)::al) w)(hs:lk al s=some (.bool b):=by rfl): WD P n ops Q l al w:=dpart s hs ht hf
theorem dkv{l:List (Nat×Oper)}{v u:Value}(s:Nat)(hv:v=u)(k:WD P n ops Q l ((s,u)::al) w)(hs:lk al s=some v:=by rfl): WD P n ops Q l al w:=dknow s u hs hv k
theorem ld[h:Tab P tt]{x:Operand}{t:Nat}{k:TK}{p:Addr}{v:Value}(hc:w.cell? p=some v)(kk:WL P n ops Q rest ((d,v)::al) w)(ht:tk tt t=some k:=by rfl)(hk:Vy k.desc=true:=by rfl)(hx:ev al x=some (.pointer (some p)):=by rfl)(hd:Nat.blt d n=true:=by rfl): WL P n ops Q (⟨some d,.load t x,ty,pos,aft,none⟩::rest) al w:=wload h.ok ht hk hx hc hd kk
theorem dld[h:Tab P tt]{x:Operand}{t:Nat}{k:TK}{p:Addr}{v:Value}(hc:w.cell? p=some v)(kk:WD P n ops Q drest ((d,v)::al) w)(ht:tk tt t=some k:=by rfl)(hk:Vy k.desc=true:=by rfl)(hx:ev al x=some (.pointer (some p)):=by rfl)(hd:Nat.blt d n=true:=by rfl): WD P n ops Q ((0,⟨some d,.load t x,ty,pos,aft,none⟩)::drest) al w:=dload h.ok ht hk hx hc hd kk
theorem lds[h:Tab P tt]{x:Operand}{t:Nat}{k:TK}{p:Addr}{cs:List Value}(hc:∀ j u,cs[j]?=some u->w.cell? (p.add j)=some u)(kk:WL P n ops Q rest ((d,.agg cs.toArray)::al) w)(ht:tk tt t=some k:=by rfl)(hk:k.desc=.invalid:=by rfl)(hl:k.size=cs.length:=by rfl)(hx:ev al x=some (.pointer (some p)):=by rfl)(hd:Nat.blt d n=true:=by rfl): WL P n ops Q (⟨some d,.load t x,ty,pos,aft,none⟩::rest) al w:=Qzp h.ok ht hk hl hx hc hd kk
theorem Qk[h:Tab P tt]{x:Operand}{t:Nat}{k:TK}{p:Addr}{cs:List Value}(hc:∀ j u,cs[j]?=some u->w.cell? (p.add j)=some u)(kk:WD P n ops Q drest ((d,.agg cs.toArray)::al) w)(ht:tk tt t=some k:=by rfl)(hk:k.desc=.invalid:=by rfl)(hl:k.size=cs.length:=by rfl)(hx:ev al x=some (.pointer (some p)):=by rfl)(hd:Nat.blt d n=true:=by rfl): WD P n ops Q ((0,⟨some d,.load t x,ty,pos,aft,none⟩)::drest) al w:=Qlc h.ok ht hk hl hx hc hd kk
theorem ix[h:Tab P tt]{x i:Operand}{t e:Nat}{k:TK}{A:Option Addr}{m c:Nat}{kd:IntKind}{z:Int}{cs:List Value}(j:Nat)(hr:Rd w 1 A m cs)(hlt:j<m)(kk:WL P n ops Q rest ((d,.pointer (some (adr A j)))::al) w)(ht:tk tt t=some k:=by rfl)(hk:k.desc=.slice e:=by rfl)(hz:k.esz=1:=by rfl)(hx:ev al x=some (.slice A m c):=by rfl)(hi:ev al i=some (.int kd z):=by rfl)(hj:z=(j:Int):=by first|rfl|omega)(hd:Nat.blt d n=true:=by rfl):
  WL P n ops Q (⟨some d,.indexAddr t x i,ty,pos,aft,none⟩::rest) al w:=Qzs h.ok j ht hk hz hx hi hr hj hlt hd kk
theorem dix[h:Tab P tt]{x i:Operand}{t e:Nat}{k:TK}{A:Option Addr}{m c:Nat}{kd:IntKind}{z:Int}{cs:List Value}(j:Nat)(hr:Rd w 1 A m cs)(hlt:j<m)(kk:WD P n ops Q drest ((d,.pointer (some (adr A j)))::al) w)(ht:tk tt t=some k:=by rfl)(hk:k.desc=.slice e:=by rfl)(hz:k.esz=1:=by rfl)(hx:ev al x=some (.slice A m c):=by rfl)(hi:ev al i=some (.int kd z):=by rfl)(hj:z=(j:Int):=by first|rfl|omega)(hd:Nat.blt d n=true:=by rfl):
  WD P n ops Q ((0,⟨some d,.indexAddr t x i,ty,pos,aft,none⟩)::drest) al w:=Qlh h.ok j ht hk hz hx hi hr hj hlt hd kk
theorem ixq[h:Tab P tt]{x i:Operand}{t e:Nat}{k:TK}{A:Option Addr}{m c:Nat}{kd:IntKind}{z:Int}{cs:List Value}(sz j:Nat)(hr:Rd w sz A m cs)(hlt:j<m)(kk:WL P n ops Q rest ((d,.pointer (some (adr A (j*sz))))::al) w)(ht:tk tt t=some k:=by rfl)(hk:k.desc=.slice e:=by rfl)(hz:k.esz=sz:=by rfl)(hx:ev al x=some (.slice A m c):=by rfl)(hi:ev al i=some (.int kd z):=by rfl)(hj:z=(j:Int):=by first|rfl|omega)(h0:0<sz:=by omega)(hd:Nat.blt d n=true:=by rfl):
  WL P n ops Q (⟨some d,.indexAddr t x i,ty,pos,aft,none⟩::rest) al w:=Jhm h.ok (j*sz) j ht hk hz hx hi hr hj hlt h0 rfl hd kk
theorem Gs[h:Tab P tt]{x i:Operand}{t e:Nat}{k:TK}{A:Option Addr}{m c:Nat}{kd:IntKind}{z:Int}{cs:List Value}(sz j:Nat)(hr:Rd w sz A m cs)(hlt:j<m)(kk:WD P n ops Q drest ((d,.pointer (some (adr A (j*sz))))::al) w)(ht:tk tt t=some k:=by rfl)(hk:k.desc=.slice e:=by rfl)(hz:k.esz=sz:=by rfl)(hx:ev al x=some (.slice A m c):=by rfl)(hi:ev al i=some (.int kd z):=by rfl)(hj:z=(j:Int):=by first|rfl|omega)(h0:0<sz:=by omega)(hd:Nat.blt d n=true:=by rfl):
  WD P n ops Q ((0,⟨some d,.indexAddr t x i,ty,pos,aft,none⟩)::drest) al w:=Jtl h.ok (j*sz) j ht hk hz hx hi hr hj hlt h0 rfl hd kk
theorem sto[h:Tab P tt]{x y:Operand}{t:Nat}{k:TK}{p:Addr}{u v:Value}(hc:w.cell? p=some u)(hf:w.frozen? p=false)(kk:WL P n ops Q rest al (w.setCell p v))(ht:tk tt t=some k:=by rfl)(hk:k.size=1:=by rfl)(hp:Vy k.desc=true:=by rfl)(hx:ev al x=some (.pointer (some p)):=by rfl)(hy:ev al y=some v:=by rfl)(hv:v.oneCell'=true:=by rfl): WL P n ops Q (⟨none,.store t x y,ty,pos,aft,none⟩::rest) al w:=Jgq h.ok ht hk hp hx hy hv hc hf kk
theorem bx{x:Operand}{t:Nat}{v:Value}{cs:List Value}(kk:∀ w1 b,Ext w w1->w.heap.size<=b->Blk w1 b t cs->WL P n ops Q rest ((d,.pointer (some ⟨b,0,none⟩))::al) w1)(hx:ev al x=some v:=by rfl)(hv:v.cells=cs.toArray:=by rfl)(hd:Nat.blt d n=true:=by rfl): WL P n ops Q (⟨some d,.box t x,ty,pos,aft,none⟩::rest) al w:=wbox hx hv hd kk
theorem cl{f:FuncId}{xs:Array Operand}{ats:Array TypeId}{vs:List Value}{Φ:Value->World->Prop}(hc:Ret P f vs w Φ)(k:∀ v w',Φ v w'->WL P n ops Q rest ((d,v)::al) w')(hx:evs al xs.toList=some vs:=by rfl)(hd:Nat.blt d n=true:=by rfl):
  WL P n ops Q (⟨some d,.call { callee:=.value (.func f),args:=xs,argTypes:=ats },ty,pos,aft,none⟩::rest) al w:=wcall hx hd hc k
theorem dcl{f:FuncId}{xs:Array Operand}{ats:Array TypeId}{vs:List Value}{Φ:Value->World->Prop}(hc:Ret P f vs w Φ)(k:∀ v w',Φ v w'->Ext w w'/\WD P n ops Q drest ((d,v)::al) w')(hx:evs al xs.toList=some vs:=by rfl)(hd:Nat.blt d n=true:=by rfl):
  WD P n ops Q ((1,⟨some d,.call { callee:=.value (.func f),args:=xs,argTypes:=ats },ty,pos,aft,none⟩)::drest) al w:=dcall hx hd hc k
theorem dr[h:Tab P tt]{id:Nat}{l:List Oper}(s:List (Nat×Nat))(hB:Jxv l.toArray s=true)(k:WD P n l.toArray Q (Ja l s) al w.drew): WC P n (.region id l.toArray true) Q al w:=wdraw s h.mixed hB k
theorem Jj{fn:Func}{Φ:Value->World->Prop}{t:Nat}{v:Value}(h:Φ v w)(hr:fn.results = #[.tmp t]:=by rfl)(ht:lk al t=some v:=by rfl): QX n (Vh P fn Φ) .ret al w:=done1 hr ht h
theorem Ve{fn:Func}{Φ:Value->World->Prop}{t u:Nat}{x y:Value}(h:Φ (.tuple #[x,y]) w)(hr:fn.results = #[.tmp t,.tmp u]:=by rfl)(ht:lk al t=some x:=by rfl)(hu:lk al u=some y:=by rfl): QX n (Vh P fn Φ) .ret al w:=done2 hr ht hu h
theorem Ux{fn:Func}{Φ:Value->World->Prop}{t u s:Nat}{x y z:Value}(h:Φ (.tuple #[x,y,z]) w)(hr:fn.results = #[.tmp t,.tmp u,.tmp s]:=by rfl)(ht:lk al t=some x:=by rfl)(hu:lk al u=some y:=by rfl)(hs:lk al s=some z:=by rfl): QX n (Vh P fn Φ) .ret al w:=done3 hr ht hu hs h
end
end Go.Wk
namespace Go.Wk
open Go.RowKit
theorem Rd.take{w:World}{sz n:Nat}{A:Option Addr}{cs:List Value}(h:Rd w sz A n cs){m:Nat}(hm:m<=n): Rd w sz A m (cs.take (m*sz)):=by
 refine ⟨?_,λh0=>?_⟩
 .rw [List.length_take,h.1];exact Nat.min_eq_left (nO _ hm)
 .obtain ⟨J,e,G,C⟩:=h.2 (by rw [List.length_take]at h0;omega);refine ⟨J,e,G,λj u o=>?_⟩;rw [List.getElem?_take]at o;split at o
  .exact C j u o
  .cases o
theorem Rd.drop{w:World}{sz n:Nat}{A:Option Addr}{cs:List Value}(h:Rd w sz A n cs){k c:Nat}(hk:k<=n)(hc:n<=c): Rd w sz (if c=k then A else A.map (·.add (k*sz))) (n-k) (cs.drop (k*sz)):=by
 have:=h.cut k n c hk (Nat.le_refl _) (.inl hc);rwa [List.take_of_length_le (by rw [List.length_drop,h.1,Nat.sub_mul];exact Nat.le_refl _)]at this
theorem Xe{w w':World}{base e sz m base' e' sz' m':Nat}{v v':Value}{xs xs':List Value}(h:w.ownsRow base e sz v m xs)(h':w.ownsRow base' e' sz' v' m' xs')(hg:w.grownBy w' v'.ownBlock)(hne:Nat.beq e e'=false): w'.ownsRow base e sz v m xs:=by
 refine h.kept hg ?_;have o:e≠e':=by intro u;subst u;simp at hne
 rcases h.2 with ⟨rfl,_⟩|⟨g,cap,cur,rfl,_,hh,_⟩
 .exact .inl rfl
 .right
  intro C;rcases h'.2 with ⟨rfl,_⟩|⟨g',cap',cur',rfl,_,hh',_⟩
  .simp [Value.ownBlock]at C
  .have:g=g':=by simpa [Value.ownBlock] using C
   subst this;rw [hh]at hh';injection hh' with hh'
   injection hh' with _ ht
   exact o ht
section
variable {P:Program} {n:Nat} {al:AL} {w:World} {Q Q' Q2:Exit->Act->World->Prop} {ops:Array Oper}
theorem Jkq(hq:∀ e a w,Q e a w->Q2 e a w): ∀ (l:List Oper) (a:Act) (w:World),wpList P ops Q l a w->wpList P ops Q2 l a w
 | [],a,w,h=>hq _ _ _ h
 | o::l,a,w,h=>by
  unfold wpList at h ⊢;split
  .rename_i hw;rw [if_pos hw]at h;rcases h with h|⟨h1,a',w',h2⟩
   .exact .inl (Yq (Q:=Q) (λc a w hp=>hq _ _ _ hp) (λ⟨a,w,h⟩=>⟨a,w,hq _ _ _ h⟩) (Oper.wp_mono (λa w h=>Jkq hq l a w h) h))
   .exact .inr ⟨h1,a',w',hq _ _ _ h2⟩
  .rename_i hw;rw [if_neg hw]at h;exact Jkq hq l _ _ h
theorem Vm{α:Type}{d:Code}{l:List Oper}(fr:α->AL)(I:α->World->Prop)(h1:WL P n ops (Exit.then (λa w=>∃ x,Fr n (fr x) a/\I x w) Q) l al w)(h2:∀ x w,I x w->WC P n d Q' (fr x) w): WL P n ops (Exit.then (d.wp P Q') Q) l al w:=by
 intro a u;refine Jkq ?_ l a w (h1 a u);intro e J w' o;cases e with
 | normal=>obtain ⟨x,G,C⟩:=o;exact h2 x w' C J G
 | exit id=>exact o
 | goto l=>exact o
 | ret=>exact o
 | panic c=>exact o
 | outgrown=>exact o
end
section
variable {P:Program} {n:Nat} {al:AL} {w:World} {Q Q':Exit->Act->World->Prop} {ops:Array Oper} {rest:List Oper} {drest:List (Nat×Oper)}
variable {d ty:Nat} {op:Op} {pos:String} {aft:Array Edge} {tt:TT}
theorem mk0{t e sz bytes:Nat}{z:Value}(hE:ElT P t e sz bytes z){x y:Operand}{kl kc:IntKind}{zc:Int}(c:Nat)(hb:bytes*c<=281474976710656)(h63:c<=maxLen)(kk:∀ w1 A,Ext w w1->w1.ownsRow w.heap.size e sz (.slice A 0 c) 0 []->WL P n ops Q rest ((d,.slice A 0 c)::al) w1)(hx:ev al x=some (.int kl 0):=by rfl)(hy:ev al y=some (.int kc zc):=by rfl)(hc:zc=(c:Int):=by first|rfl|omega)(hd:Nat.blt d n=true:=by rfl): WL P n ops Q (⟨some d,.makeSlice t x y,ty,pos,aft,none⟩::rest) al w:=by
 subst hc;obtain ⟨i,hi,J,u,C⟩:=hE.info;subst C;obtain ⟨w1,Z,U,o⟩:=run_make_own (P:=P) w w.heap.size t e i z sz hE.sl hi J u kl kc c hb h63 (Nat.le_refl _);exact wop hd (λa G=>by simp [execOp,G.ev hx,G.ev hy,Z]) (kk w1 _ ⟨o.os,o.tape,o.output,o.size,λk O=>o.block k O (by simp)⟩ U)
theorem mkn{t e sz bytes:Nat}{z:Value}(hE:ElT P t e sz bytes z){x y:Operand}{kl kc:IntKind}{zl zc:Int}(m:Nat)(hb:bytes*m<=281474976710656)(h63:m<=maxLen)(kk:∀ w1 A,Ext w w1->w1.ownsRow w.heap.size e sz (.slice A m m) m (madeCells z.cells (m*sz)).toList->(∀ g,A=some g->w.heap.size<=g.block)->WL P n ops Q rest ((d,.slice A m m)::al) w1)(hx:ev al x=some (.int kl zl):=by rfl)(hy:ev al y=some (.int kc zc):=by rfl)(hl:zl=(m:Int):=by first|rfl|omega)(hc:zc=(m:Int):=by first|rfl|omega)(hd:Nat.blt d n=true:=by rfl): WL P n ops Q (⟨some d,.makeSlice t x y,ty,pos,aft,none⟩::rest) al w:=by
 subst hc;subst hl;obtain ⟨i,hi,O,u,G⟩:=hE.info;subst G;obtain ⟨w1,h1,Z,o⟩:=run_make_full (P:=P) w w.heap.size t e i z sz hE.sl hi O u kl kc m hb h63 (Nat.le_refl _);exact wop hd (λa J=>by simp [execOp,J.ev hx,J.ev hy,h1]) (kk w1 _ ⟨o.os,o.tape,o.output,o.size,λk U=>o.block k U (by simp)⟩ Z (λg C=>by injection C with C;subst C;exact Nat.le_refl _))
theorem slh[hT:Tab P tt]{x y:Operand}{t e:Nat}{k:TK}{A:Option Addr}{m c:Nat}{kd:IntKind}{z:Int}(h:Nat)(kk:WL P n ops Q rest ((d,.slice A h c)::al) w)(ht:tk tt t=some k:=by rfl)(hk:k.desc=.slice e:=by rfl)(hx:ev al x=some (.slice A m c):=by rfl)(hy:ev al y=some (.int kd z):=by rfl)(hz:z=(h:Int):=by first|rfl|omega)(h2:h<=c:=by omega)(hd:Nat.blt d n=true:=by rfl):
  WL P n ops Q (⟨some d,.slice t x none (some y) none,ty,pos,aft,none⟩::rest) al w :=
 Jkn hT.ok 0 h c A h c ht hk rfl hx rfl ⟨kd,z,hy,hz⟩ rfl (.inl rfl) (Nat.zero_le _) h2 (Nat.le_refl _) (cut0 A _ _) rfl rfl hd kk
theorem sll[hT:Tab P tt]{x y:Operand}{t e:Nat}{k:TK}{A:Option Addr}{m c:Nat}{kd:IntKind}{z:Int}(l:Nat)(kk:WL P n ops Q rest ((d,.slice (if c=l then A else A.map (·.add (l*k.esz))) (m-l) (c-l))::al) w)(ht:tk tt t=some k:=by rfl)(hk:k.desc=.slice e:=by rfl)(hx:ev al x=some (.slice A m c):=by rfl)(hy:ev al y=some (.int kd z):=by rfl)(hz:z=(l:Int):=by first|rfl|omega)(h1:l<=m:=by omega)(h2:m<=c:=by omega)(hd:Nat.blt d n=true:=by rfl):
  WL P n ops Q (⟨some d,.slice t x (some y) none none,ty,pos,aft,none⟩::rest) al w :=
 Jkn hT.ok l m c _ _ _ ht hk rfl hx ⟨kd,z,hy,hz⟩ rfl rfl (.inl rfl) h1 h2 (Nat.le_refl _) rfl rfl rfl hd kk
theorem apo{a:World}(hxa:Ext a w){t e sz bytes:Nat}{z:Value}(hE:ElT P t e sz bytes z){x y:Operand}{v:Value}{m:Nat}{xs:List Value}{A':Option Addr}{m' c':Nat}{news:List Value}(ha:w.ownsRow a.heap.size e sz v m xs)(hr:Rd w sz A' m' news)(h1:∀ u∈news,u.oneCell'=true)(h63:m+m'<=maxLen)(hby:(m+m')*bytes<=140737488355328)(kk:∀ v' w',w'.ownsRow a.heap.size e sz v' (m+m') (xs++news)->Ext a w'->w.grownBy w' v.ownBlock->(∀ g,v'.ownBlock=some g->v.ownBlock=some g∨w.heap.size<=g)->WL P n ops Q rest ((d,v')::al) w')(hx:ev al x=some v:=by rfl)(hy:ev al y=some (.slice A' m' c'):=by rfl)(hd:Nat.blt d n=true:=by rfl):
  WL P n ops Q (⟨some d,.call { callee:=.builtin .append,args:=#[x,y],argTypes:=#[t,t] },ty,pos,aft,none⟩::rest) al w :=
 Qkj hxa hE hx hy (.inl ha) hr h1 h63 hby hd λv' w' _ _ J G C o=>kk v' w' (J ha) G C o
theorem bsl{t:Nat}{len:Nat}{parts:Array (Nat×Operand)}{vs:List Value}{e:Nat}{cs:List Value}{pw:Array (Nat×Value)}(hb:∀ w:World,(Instr.buildSlice t len pw).run P w=.ok (.slice (some ⟨w.heap.size,0,none⟩) len len) (w.alloc (.cells cs.toArray e)))(kk:∀ w1 b,Ext w w1->w.heap.size<=b->Blk w1 b e cs->WL P n ops Q rest ((d,.slice (some ⟨b,0,none⟩) len len)::al) w1)(hx:evs al (parts.toList.map (·.2))=some vs:=by rfl)(hp:((parts.toList.map (·.1)).zip vs).toArray=pw:=by rfl)(hd:Nat.blt d n=true:=by rfl):
  WL P n ops Q (⟨some d,.buildSlice t len parts,ty,pos,aft,none⟩::rest) al w:=by subst hp;exact Qkf hx hb hd kk
theorem bld{t:Nat}{parts:Array (Nat×Operand)}{vs:List Value}{v:Value}{pw:Array (Nat×Value)}(hb:(Instr.build t pw).run P w=.ok v w)(kk:WL P n ops Q rest ((d,v)::al) w)(hx:evs al (parts.toList.map (·.2))=some vs:=by rfl)(hp:((parts.toList.map (·.1)).zip vs).toArray=pw:=by rfl)(hd:Nat.blt d n=true:=by rfl): WL P n ops Q (⟨some d,.build t parts,ty,pos,aft,none⟩::rest) al w:=by subst hp;exact Qkg hx hb hd kk
theorem sb[h:Tab P tt]{x:Operand}{src dst e:Nat}{k k2 k3:TK}{A:Option Addr}{m c:Nat}{l:List UInt8}(hr:Rd w 1 A m (Bc l))(kk:WL P n ops Q rest ((d,.string (str l))::al) w)(hs:tk tt src=some k:=by rfl)(hk:k.desc=.slice e:=by rfl)(he:tk tt e=some k3:=by rfl)(hk3:k3.desc=.int .u8:=by rfl)(hdst:tk tt dst=some k2:=by rfl)(hk2:k2.desc=.string:=by rfl)(hx:ev al x=some (.slice A m c):=by rfl)(hd:Nat.blt d n=true:=by rfl): WL P n ops Q (⟨some d,.convert src dst x,ty,pos,aft,none⟩::rest) al w:=Qkd h.ok hs hk he hk3 hdst hk2 hx hr hd kk
end
end Go.Wk
