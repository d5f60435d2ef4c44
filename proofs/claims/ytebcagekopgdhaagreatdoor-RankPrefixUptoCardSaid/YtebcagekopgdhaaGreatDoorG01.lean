/- Part 1. -/
import Derived.Test.YtebcagekopgdhaaGreatDoorG00
import Derived.OrdersHeld
import Derived.Lib.Bytealg
import Derived.Laws.StructEq
import Derived.Laws.Cover3
set_option linter.unusedVariables false
set_option maxRecDepth 100000
set_option maxHeartbeats 40000000
namespace Go.Wk
open Go.RowKit
variable {a:Act}{K:Act->World->Prop}{p:Addr}{b:Bool}{z:Int}{kd:IntKind}{l:List (Nat×Oper)}{cs vs:List Value}{c e i id j m s t:Nat}{o oi:Oper}{x y:Operand}{A:Option Addr}{k:TK}{v:Value}
section
variable {P:Program} {ops:Array Oper} {Q:Exit->Act->World->Prop} {T:Nat->Bool}
def QF(Q:Exit->Act->World->Prop): Exit->Act->World->Prop
 | .normal,a,w=>Q .normal a w
 | _,_,_=>False
theorem Yj{Q Q':Exit->Act->World->Prop}(hp:∀ c a w,Q (.panic c) a w->Q' (.panic c) a w)(ho:LetsOut Q->LetsOut Q'){r:Result Next}(h:o.upon P a K Q r): o.upon P a K Q' r:=by
 cases r with
 | ok n w'=>
  cases n<;>simp only [Oper.upon]at h ⊢<;>first
   | exact h
   | exact Calls.mono h (λe C u=>by cases e<;>first|exact u|exact hp _ _ _ u|exact ho u)
 | halt x w'=>cases x<;>simp only [Oper.upon]at h ⊢<;>first|exact h|exact hp _ _ _ h
theorem Jqb{w:World}(h:wpOp P ops (QF Q) i K a w): wpOp P ops Q i K a w:=by
 have u:¬ LetsOut (QF Q):=by rintro ⟨a,w,h⟩;exact h
 unfold wpOp at *;split
 .rename_i ho;simp only [ho]at h;exact h
 .rename_i o ho;simp only [ho]at h;split
  .rename_i hw;simp only [hw,if_true]at h;rcases h with h|⟨_,h⟩
   .exact .inl (Yj (Q:=QF Q) (λc a w C=>C.elim) (λC=>absurd C u) h)
   .exact absurd h u
  .rename_i hw;simp only [hw]at h;exact h
def unl(ops:Array Oper)(listed:Array Bool)(i:Nat): Prop:=i<ops.size/\listed.getD i true=false
def Yu(P:Program)(ops:Array Oper)(Q:Exit->Act->World->Prop)(T:Nat->Bool): Nat->Array Bool->Act->World->Prop
 | 0,listed,a,w=>Region.ready .any ops listed=[]/\Q .normal a w
 | fuel+1,listed,a,w=>
  ((∀ i,unl ops listed i->T i=true)/\wpAny P .any ops Q (fuel+1) listed a w) ∨
  ((Region.ready .any ops listed=[]->Q .normal a w) /\
   ∀ i∈Region.ready .any ops listed,wpOp P ops (QF Q) i (λa' w'=>Ext w w'/\Yu P ops Q T fuel (listed.setIfInBounds i true) a' w') a w)
theorem Jcl: ∀ (fuel:Nat) (listed:Array Bool) (a:Act) (w:World),Yu P ops Q T fuel listed a w->wpAny P .any ops Q fuel listed a w
 | 0,_,_,_,h=>h
 | fuel+1,_,_,_,h=>by
  rcases h with h|h
  .exact h.2
  .exact ⟨h.1,λi hi=>wpOp_mono (λa' w' h'=>Jcl fuel _ a' w' h'.2) (Jqb (h.2 i hi))⟩
def Gb(ops:Array Oper)(T:Nat->Bool): Bool:=(List.range ops.size).all λt=>!T t || (List.range ops.size).all λi=>T i || match ops[t]? with
 | some o=>o.after.any λe=>Region.binds .any e && e.on == i
 | none=>false
theorem Qbm(h:Gb ops T=true)(ho:ops[t]?=some o)(ht:T t=true)(hi:i<ops.size)(hn:T i=false): ∃ e∈o.after,Region.binds .any e=true/\e.on=i:=by
 have u:t<ops.size:=(Array.getElem?_eq_some_iff.1 ho).1;have J:=List.all_eq_true.1 h t (List.mem_range.2 u);simp only [ht,Bool.not_true,Bool.false_or]at J;have G:=List.all_eq_true.1 J i (List.mem_range.2 hi);simp only [hn,Bool.false_or,ho,Array.any_eq_true']at G;obtain ⟨e,O,C⟩:=G;simp only [Bool.and_eq_true,beq_iff_eq]at C;exact ⟨e,O,C.1,C.2⟩
theorem Jrv(hT:Gb ops T=true){listed:Array Bool}(hi:unl ops listed i)(hn:T i=false)(hj:j∈Region.ready .any ops listed): T j=false:=by
 cases h:T j with
 | false=>rfl
 | true=>
  obtain ⟨J,Z,G,o⟩:=mem_ready.1 hj;obtain ⟨e,O,U,C⟩:=Qbm hT G h hi.1 hn;have u:=o e O U;rw [C]at u;have h0:=hi.2;rcases Nat.lt_or_ge i listed.size with h'|h'
  .simp [h']at h0 u;rw [h0]at u;cases u
  .simp [Array.getElem?_eq_none h']at u
theorem Jmk(hT:Gb ops T=true)(hi:ops[i]?=some oi)(hn:T i=false)(hsel:∀ (j:Nat) (o:Oper) cs b,ops[j]?=some o->o.op≠.select cs b):
  ∀ (fuel:Nat) (listed:Array Bool) (a:Act) (w:World),
   (∀ j oj,ops[j]?=some oj->j≠i->listed.getD j true=false->(∀ e∈oj.after,Region.binds .any e=true->e.on≠i)->oi.apart ops oj=true) ->
   i∈Region.ready .any ops listed->YieldsIf P ops (Ext w) oi v a ->
   Yu P ops Q T fuel (listed.setIfInBounds i true) (a.put oi.dst v) w->Yu P ops Q T (fuel+1) listed a w:=by
 have a8:i<ops.size:=(Array.getElem?_eq_some_iff.1 hi).1;intro fuel;induction fuel with
 | zero=>
  intro listed a w _ O hy H;refine .inr ⟨λh=>(by rw [h]at O;cases O),λj hj=>?_⟩;by_cases hji:j=i
  .subst hji;exact hy.wpOp hi (Ext.refl w) ⟨Ext.refl w,H⟩
  .have:=ready_mono hj hji;rw [H.1]at this;cases this
 | succ fuel ih=>
  intro listed a w C O hy H;have a4:unl ops listed i:=⟨a8,(mem_ready.1 O).1⟩;refine .inr ⟨λh=>(by rw [h]at O;cases O),λj hj=>?_⟩;by_cases hji:j=i
  .subst hji;exact hy.wpOp hi (Ext.refl w) ⟨Ext.refl w,H⟩
  .obtain ⟨u,oj,G,a2⟩:=mem_ready.1 hj;have a7:T j=false:=Jrv hT a4 hn hj;rcases H with H|H
   .have:=H.1 j ⟨(Array.getElem?_eq_some_iff.1 G).1,by rw [getD_set_ne true (Ne.symm hji)];exact u⟩;rw [a7]at this;cases this
   .have U:=H.2 j (ready_mono hj hji);have a1:∀ e∈oj.after,Region.binds .any e=true->e.on≠i:=λe he hb a9=>by
     have U:=a2 e he hb;have h0:=(mem_ready.1 O).1;rw [a9]at U;rcases Nat.lt_or_ge i listed.size with h'|h'
     .simp [h']at h0 U;rw [h0]at U;cases U
     .simp [Array.getElem?_eq_none h']at U
    have h2:=wpOp_putIf G (C j oj G hji u a1) (λcs b=>hsel i oi cs b hi) (λcs b=>hsel j oj cs b G) (λc a w h=>h) hy U;have J:∀ k ok,ops[k]?=some ok->k≠i->(listed.setIfInBounds j true).getD k true=false ->
      (∀ e∈ok.after,Region.binds .any e=true->e.on≠i)->oi.apart ops ok=true:=λk ok hk a6 Z a5=>by
     refine C k ok hk a6 ?_ a5;by_cases hjk:j=k
     .subst hjk;exact u
     .rw [getD_set_ne true hjk]at Z;exact Z
    refine wpOp_mono (λa' w' h3=>⟨h3.2.1,ih (listed.setIfInBounds j true) a' w' J (ready_mono O (Ne.symm hji)) ?_ ?_⟩) h2
    .exact h3.1.imp (λ⟨h4,h5⟩=>⟨h4,λa3 hx=>h5 a3 (h3.2.1.trans hx)⟩) id
    .rw [Array.setIfInBounds_comm _ _ hji];exact h3.2.2
def Qs(ops:Array Oper): List (Nat×Nat)->Array Bool->Bool
 | [],listed=>(Region.ready .any ops listed).isEmpty
 | (0,i)::r,listed=>(Region.ready .any ops listed).contains i && Region.free .any ops listed i && Qs ops r (listed.setIfInBounds i true)
 | (_,i)::r,listed=>(Region.ready .any ops listed == [i]) && Qs ops r (listed.setIfInBounds i true)
def Ua(s:List (Nat×Nat))(i:Nat): Bool:=s.any λp=>p.1 == 2 && p.2 == i
def Jxq: List (Nat×Nat)->Bool
 | []=>true
 | (k,_)::r=>Nat.ble k 2 && (k != 2 || r.all λp=>p.1 == 2) && Jxq r
def Jzx(ops:Array Oper)(s:List (Nat×Nat)): Bool :=
 Region.noSelect ops && (s.length == ops.size) && Gb ops (Ua s) && Jxq s && (s.all λp=>(p.1 == 2) == Ua s p.2) && Qs ops s (Array.replicate ops.size false) && (s.all λp=>Nat.blt p.2 ops.size) && ((List.range ops.size).all λi=>s.any λp=>p.2 == i)
def wk1(P:Program)(ops:Array Oper)(Q:Exit->Act->World->Prop)(k:Nat)(o:Oper)(K:Act->World->Prop)(a:Act)(w:World): Prop :=
 match k with
 | 0=>∃ v,YieldsIf P ops (Ext w) o v a/\K (a.put o.dst v) w
 | 1=>if Region.wanted o (yielded ops a.tmps) then o.wp P a w (λa' w'=>Ext w w'/\K a' w') (QF Q) else K (a.put o.dst undef) w
 | _=>if Region.wanted o (yielded ops a.tmps) then o.wp P a w K (QF Q) else K (a.put o.dst undef) w
def Qm(P:Program)(ops:Array Oper)(Q:Exit->Act->World->Prop): List (Nat×Oper)->Act->World->Prop
 | [],a,w=>Q .normal a w
 | p::r,a,w=>wk1 P ops Q p.1 p.2 (Qm P ops Q r) a w
def Jo(l:List Oper): List (Nat×Nat)->List (Nat×Oper)
 | []=>[]
 | (k,i)::r=>match nth l i with
  | some o=>(k,o)::Jo l r
  | none=>Jo l r
theorem Jmc: ∀ (s:List (Nat×Nat)) (listed:Array Bool) (a:Act) (w:World),(∀ p∈s,p.1=2)->(∀ p∈s,p.2<ops.size)->Qs ops s listed=true->Qm P ops Q (Jo ops.toList s) a w->wpAny P .any ops Q s.length listed a w
 | [],listed,a,w,_,_,hB,h=>⟨by simpa [Qs] using hB,h⟩
 | (k,i)::r,listed,a,w,hk,hlt,hB,h=>by
  obtain rfl:k=2:=hk _ (mC ..);have hi:i<ops.size:=hlt _ (mC ..);simp only [Qs,Bool.and_eq_true,beq_iff_eq]at hB;obtain ⟨hr,hB'⟩:=hB;have ho:ops[i]?=some ops[i]:=Array.getElem?_eq_getElem hi;have hn:nth ops.toList i=some ops[i]:=by rw [Xz];simp [hi]
  simp only [Jo,hn,Qm,wk1]at h;refine ⟨λh0=>(by rw [hr]at h0;cases h0),λj hj=>?_⟩;rw [hr]at hj;obtain rfl:j=i:=by simpa using hj
  have hrec:∀ a w,Qm P ops Q (Jo ops.toList r) a w->wpAny P .any ops Q r.length (listed.setIfInBounds j true) a w:=λa w h'=>
   Jmc r _ a w (λp hp=>hk p (List.mem_cons_of_mem _ hp)) (λp hp=>hlt p (List.mem_cons_of_mem _ hp)) hB' h'
  refine wpOp_mono hrec (Jqb ?_);unfold wpOp;simp only [ho];split
  .rename_i hw;simp only [hw,if_true]at h;exact .inl h
  .rename_i hw;simp only [hw]at h;exact h
theorem Jmj(hsel:Region.noSelect ops=true)(hT:Gb ops T=true): ∀ (s:List (Nat×Nat)) (listed:Array Bool) (a:Act) (w:World),Jxq s=true->(∀ p∈s,p.2<ops.size)->(∀ p∈s,(p.1 == 2)=T p.2) ->
  (∀ i,unl ops listed i->∃ k,(k,i)∈s)->Qs ops s listed=true->Qm P ops Q (Jo ops.toList s) a w->Yu P ops Q T s.length listed a w
 | [],listed,a,w,_,_,_,_,hB,h=>⟨by simpa [Qs] using hB,h⟩
 | (k,i)::r,listed,a,w,hk,hlt,hKT,hall,hB,h=>by
  have hi:i<ops.size:=hlt _ (mC ..);have ho:ops[i]?=some ops[i]:=Array.getElem?_eq_getElem hi;have hn:nth ops.toList i=some ops[i]:=by rw [Xz];simp [hi]
  simp only [Jxq,Bool.and_eq_true]at hk;have hTi:=hKT _ (mC ..);simp only at hTi;have hall':∀ j,unl ops (listed.setIfInBounds i true) j->∃ k,(k,j)∈r:=λj hj=>by
   by_cases hji:j=i
   .subst hji;have h2:=hj.2;rcases Nat.lt_or_ge j listed.size with h'|h'
    .simp [h']at h2
    .simp at h2
   .obtain ⟨k',hk'⟩:=hall j ⟨hj.1,by rw [<-getD_set_ne true (Ne.symm hji)];exact hj.2⟩;rcases List.mem_cons.1 hk' with h'|h'
    .injection h' with _ h';exact absurd h' hji
    .exact ⟨k',h'⟩
  have hrec:Qs ops r (listed.setIfInBounds i true)=true->∀ a w,Qm P ops Q (Jo ops.toList r) a w->Yu P ops Q T r.length (listed.setIfInBounds i true) a w:=λhB' a w h'=>
   Jmj hsel hT r _ a w hk.2 (λp hp=>hlt p (List.mem_cons_of_mem _ hp)) (λp hp=>hKT p (List.mem_cons_of_mem _ hp)) hall' hB' h'
  match k,hTi,hk,hB,h with
  | 0,hTi,hk,hB,h=>
   simp only [Qs,Bool.and_eq_true]at hB;obtain ⟨⟨hr,hf⟩,hB'⟩:=hB;simp only [Jo,hn,Qm,wk1]at h;obtain ⟨v,hy,h⟩:=h;exact Jmk hT ho (by rw [<-hTi];rfl) (Region.noSelect_spec hsel) r.length listed a w (Region.free_spec ho hf) (by simpa using hr) hy (hrec hB' _ _ h)
  | 1,hTi,hk,hB,h=>
   simp only [Qs,Bool.and_eq_true,beq_iff_eq]at hB;obtain ⟨hr,hB'⟩:=hB;simp only [Jo,hn,Qm,wk1]at h;refine .inr ⟨λh0=>(by rw [hr]at h0;cases h0),λj hj=>?_⟩;rw [hr]at hj;obtain rfl:j=i:=by simpa using hj
   unfold wpOp;simp only [ho];split
   .rename_i hw;simp only [hw,if_true]at h;exact .inl (Oper.wp_mono (λa' w' h'=>⟨h'.1,hrec hB' _ _ h'.2⟩) h)
   .rename_i hw;simp only [hw]at h;exact ⟨Ext.refl w,hrec hB' _ _ h⟩
  | 2,hTi,hk,hB,h=>
   refine .inl ⟨λj hj=>?_,Jmc ((2,i)::r) listed a w ?_ hlt hB h⟩
   .obtain ⟨k',hk'⟩:=hall j hj;have h1:=hKT _ hk';simp only at h1;rw [<-h1];rcases List.mem_cons.1 hk' with h'|h'
    .injection h' with h' _;rw [h'];rfl
    .have:=hk.1.2;simp only [bne_self_eq_false,Bool.false_or,List.all_eq_true]at this;exact this _ h'
   .intro p hp;rcases List.mem_cons.1 hp with h'|h'
    .rw [h']
    .have:=hk.1.2;simp only [bne_self_eq_false,Bool.false_or,List.all_eq_true]at this;simpa using this _ h'
  | k+3,hTi,hk,hB,h=>
   have:=hk.1.1;simp at this
end
section
variable {P:Program} {n:Nat} {al al':AL} {w:World} {Q:Exit->Act->World->Prop} {ops:Array Oper} {rest:List (Nat×Oper)}
def WD(P:Program)(n:Nat)(ops:Array Oper)(Q:Exit->Act->World->Prop)(l:List (Nat×Oper))(al:AL)(w:World): Prop:=∀ a,Fr n al a->Qm P ops Q l a w
theorem WD.sub{l:List (Nat×Oper)}(hs:Sub al' al)(h:WD P n ops Q l al' w): WD P n ops Q l al w:=λa o=>h a (o.sub hs)
theorem wdraw{l:List Oper}(s:List (Nat×Nat))(hm:P.follows .mixedOrders=true)(hB:Jzx l.toArray s=true)(h:WD P n l.toArray Q (Jo l s) al w.drew): WC P n (.region id l.toArray true) Q al w:=by
 intro a G;simp only [Jzx,Bool.and_eq_true,beq_iff_eq,List.all_eq_true,List.any_eq_true,List.mem_range]at hB;obtain ⟨⟨⟨⟨⟨⟨⟨h1,u⟩,h3⟩,h4⟩,Z⟩,U⟩,O⟩,J⟩:=hB;refine wp_region_any hm ?_;rw [<-u];refine Jcl (T:=Ua s) _ _ _ _ (Jmj h1 h3 s _ a _ h4 (λp o=>?_) (λp o=>?_) (λi hi=>?_) (by rw [u];exact U) ?_)
 .have:=O p o;have h':p.2+1<=l.toArray.size:=by simpa [Nat.blt] using this
  omega
 .simpa using Z p o
 .obtain ⟨p,o,C⟩:=J i hi.1;exact ⟨p.1,by rw [<-C];exact o⟩
 .have:=h a G;simpa using this
theorem Vb(h:QX n Q .normal al w): WD P n ops Q [] al w:=λa o=>h a o
variable {d ty:Nat} {op:Op} {pos:String} {aft:Array Edge}
def Yld(P:Program)(n:Nat)(al:AL)(w:World)(o:Oper)(v:Value): Prop:=∀ w',Ext w w'->∀ a,Fr n al a->(execOp a.eval o).run P w'=.ok (.value v) w'
theorem dy(hy:Yld P n al w ⟨some d,op,ty,pos,aft,none⟩ v)(hd:Nat.blt d n=true)(k:WD P n ops Q rest ((d,v)::al) w): WD P n ops Q ((0,⟨some d,op,ty,pos,aft,none⟩)::rest) al w:=λa u=>by
 have o:d<n:=by (have:d+1<=n:=by simpa [Nat.blt] using hd);(omega)
 exact ⟨v,.inl ⟨rfl,λw' C=>hy w' C a u⟩,k _ (u.put o v)⟩
theorem dp{tt:TT}(hT:TOk P tt)(hv:pv tt (ev al) op=some v)(hd:Nat.blt d n=true)(k:WD P n ops Q rest ((d,v)::al) w): WD P n ops Q ((0,⟨some d,op,ty,pos,aft,none⟩)::rest) al w :=
 dy (λw' _ a C=>Gh w' hT (λx u o=>C.ev o) hv) hd k
theorem dpn{tt:TT}(hT:TOk P tt)(hv:pv tt (ev al) op=some v)(k:WD P n ops Q rest al w): WD P n ops Q ((0,⟨none,op,ty,pos,aft,none⟩)::rest) al w:=λa C=>
 ⟨v,.inl ⟨rfl,λw' o=>Gh w' hT (λx u o=>C.ev o) hv⟩,k _ C⟩
theorem Qpn{kd:Nat}{dst:Option Nat}(hj:Zn ops j=some s)(hs:lk al s=some (.bool b))(k:WD P n ops Q ((kd,⟨dst,op,ty,pos,aft,none⟩)::rest) al w):
  WD P n ops Q ((kd,⟨dst,op,ty,pos,aft,some (j,b)⟩)::rest) al w:=λa G=>by
 have h:=k a G;have J:=Jjz (ops:=ops) G hj hs;have C:Region.wanted (⟨dst,op,ty,pos,aft,none⟩:Oper) (yielded ops a.tmps)=true:=rfl;have u:Region.wanted (⟨dst,op,ty,pos,aft,some (j,b)⟩:Oper) (yielded ops a.tmps)=true:=by simp [Region.wanted,J]
 unfold Qm wk1 at h ⊢;match kd,h with
 | 0,h=>
  obtain ⟨v,o,O⟩:=h;refine ⟨v,?_,O⟩;rcases o with o|o
  .exact .inl ⟨u,o.2⟩
  .exact absurd o.1 (by rw [C];simp)
 | 1,h=>simp only [C,if_true]at h;simp only [u,if_true];exact h
 | k+2,h=>simp only [C,if_true]at h;simp only [u,if_true];exact h
theorem dpass{kd:Nat}{c:Bool}(hj:Zn ops j=some s)(hs:lk al s=some (.bool b))(hne:(b == c)=false)(hd:Nat.blt d n=true)(k:WD P n ops Q rest ((d,undef)::al) w):
  WD P n ops Q ((kd,⟨some d,op,ty,pos,aft,some (j,c)⟩)::rest) al w:=λa G=>by
 have o:d<n:=by (have:d+1<=n:=by simpa [Nat.blt] using hd);(omega)
 have J:=Jjz (ops:=ops) G hj hs;have C:Region.wanted (⟨some d,op,ty,pos,aft,some (j,c)⟩:Oper) (yielded ops a.tmps)=false:=by
  simp [Region.wanted,J];simpa using hne
 have u:=k _ (G.put o undef);unfold Qm wk1;match kd with
 | 0=>exact ⟨undef,.inr ⟨C,rfl⟩,u⟩
 | 1=>simp only [C];exact u
 | m+2=>simp only [C];exact u
theorem dpart(s:Nat)(hs:lk al s=some (.bool b))(ht:b=true->WD P n ops Q l ((s,.bool true)::al) w)(hf:b=false->WD P n ops Q l ((s,.bool false)::al) w): WD P n ops Q l al w:=by
 cases b
 .exact (hf rfl).sub (Sub.cons hs Sub.refl)
 .exact (ht rfl).sub (Sub.cons hs Sub.refl)
theorem dknow(s:Nat)(u:Value)(hs:lk al s=some v)(hv:v=u)(k:WD P n ops Q l ((s,u)::al) w): WD P n ops Q l al w:=by
 subst hv;exact k.sub (Sub.cons hs Sub.refl)
theorem dcall{f:FuncId}{xs:Array Operand}{ats:Array TypeId}{Φ:Value->World->Prop}(hx:evs al xs.toList=some vs)(hd:Nat.blt d n=true)(hc:Ret P f vs w Φ)(k:∀ v w',Φ v w'->Ext w w'/\WD P n ops Q rest ((d,v)::al) w'): WD P n ops Q ((1,⟨some d,.call { callee:=.value (.func f),args:=xs,argTypes:=ats },ty,pos,aft,none⟩)::rest) al w:=λa C=>by
 have o:d<n:=by (have:d+1<=n:=by simpa [Nat.blt] using hd);(omega)
 have J:xs.map a.eval=vs.toArray:=by rw [<-C.evs hx,<-List.map_toArray,Array.toArray_toList]
 have G:(execOp a.eval ⟨some d,.call { callee:=.value (.func f),args:=xs,argTypes:=ats },ty,pos,aft,none⟩).run P w=.ok (.enter f vs.toArray) w:=by
  simp [execOp,resolve,J,Act.eval,Deferred.ofValue,invoke,Jvp hc.ok]
 unfold Qm wk1;have O:Region.wanted (⟨some d,.call { callee:=.value (.func f),args:=xs,argTypes:=ats },ty,pos,aft,none⟩:Oper) (yielded ops a.tmps)=true:=rfl;simp only [O,if_true];exact Jbg G hc λv w' u=>⟨(k v w' u).1,(k v w' u).2 _ (C.put o v)⟩
variable {tt:TT}
theorem Qqt{w w':World}(hx:Ext w w')(hc:w.cell? p=some v): w'.cell? p=some v:=by
 rw [<-hc];exact hx.cell (World.block_lt_of_cell? w p hc)
theorem dload(hT:TOk P tt)(ht:tk tt t=some k)(hk:Vm k.desc=true)(hx:ev al x=some (.pointer (some p)))(hc:w.cell? p=some v)(hd:Nat.blt d n=true)(kk:WD P n ops Q rest ((d,v)::al) w): WD P n ops Q ((0,⟨some d,.load t x,ty,pos,aft,none⟩)::rest) al w :=
 dy (λw' o a u=>by simp [execOp,u.ev hx,Instr.loadAt,Instr.sureAddr,Jpz (w:=w') hT ht hk (Qqt o hc)]) hd kk
theorem Qpg(hT:TOk P tt)(ht:tk tt t=some k)(hk:k.desc=.invalid)(hl:k.size=cs.length)(hx:ev al x=some (.pointer (some p)))(hc:∀ j u,cs[j]?=some u->w.cell? (p.add j)=some u)(hd:Nat.blt d n=true)(kk:WD P n ops Q rest ((d,.agg cs.toArray)::al) w): WD P n ops Q ((0,⟨some d,.load t x,ty,pos,aft,none⟩)::rest) al w :=
 dy (λw' C a G=>by simp [execOp,G.ev hx,Instr.loadAt,Instr.sureAddr,Ia (w:=w') hT ht hk hl (λj u o=>Qqt C (hc j u o))]) hd kk
theorem Qxb(hT:TOk P tt){i:Operand}{sz:Nat}(q:Nat)(j:Nat)(ht:tk tt t=some k)(hk:k.desc=.slice e)(hz:k.esz=sz)(hx:ev al x=some (.slice A m c))(hi:ev al i=some (.int kd z))(hr:Rd w sz A m cs)(hj:z=(j:Int))(hlt:j<m)(h0:0<sz)(hq:j*sz=q)(hd:Nat.blt d n=true)(kk:WD P n ops Q rest ((d,.pointer (some (adr A q)))::al) w): WD P n ops Q ((0,⟨some d,.indexAddr t x i,ty,pos,aft,none⟩)::rest) al w:=by
 obtain ⟨u,C⟩:=Kg hT ht hk hz;obtain ⟨O,rfl,J⟩:=hr.isome om h0;subst hj;subst hq;refine dy (λw' G a o=>?_) hd kk;simp [execOp,o.ev hx,o.ev hi,Instr.indexAt,asIntOf,run_underlying u,Vw w' C,adr];intro h;omega
theorem Qpl(hT:TOk P tt){i:Operand}(j:Nat)(ht:tk tt t=some k)(hk:k.desc=.slice e)(hz:k.esz=1)(hx:ev al x=some (.slice A m c))(hi:ev al i=some (.int kd z))(hr:Rd w 1 A m cs)(hj:z=(j:Int))(hlt:j<m)(hd:Nat.blt d n=true)(kk:WD P n ops Q rest ((d,.pointer (some (adr A j)))::al) w): WD P n ops Q ((0,⟨some d,.indexAddr t x i,ty,pos,aft,none⟩)::rest) al w :=
 Qxb hT j j ht hk hz hx hi hr hj hlt om om hd kk
theorem dadd{t yt:TypeId}{a b:Int}(hx:ev al x=some (.int .i64 a))(hy:ev al y=some (.int .i64 b))(hc:-9223372036854775808<=a+b/\a+b<=9223372036854775807)(hd:Nat.blt d n=true)(k:WD P n ops Q rest ((d,.int .i64 (a+b))::al) w): WD P n ops Q ((0,⟨some d,.binOp .add t x y yt,ty,pos,aft,none⟩)::rest) al w:=by
 have e:IntKind.i64.wrap (a+b)=a+b:=by rw [IntKind.wrap_i64];omega
 exact dp (tt:=[]) trivial (v:=.int .i64 (a+b)) (by simp only [pv,hx,hy,bop,if_true,e]) hd k
theorem dsub{t yt:TypeId}{a b:Int}(hx:ev al x=some (.int .i64 a))(hy:ev al y=some (.int .i64 b))(hc:-9223372036854775808<=a-b/\a-b<=9223372036854775807)(hd:Nat.blt d n=true)(k:WD P n ops Q rest ((d,.int .i64 (a-b))::al) w): WD P n ops Q ((0,⟨some d,.binOp .sub t x y yt,ty,pos,aft,none⟩)::rest) al w:=by
 have e:IntKind.i64.wrap (a-b)=a-b:=by rw [IntKind.wrap_i64];omega
 exact dp (tt:=[]) trivial (v:=.int .i64 (a-b)) (by simp only [pv,hx,hy,bop,if_true,e]) hd k
end
end Go.Wk
namespace Go.Wk
open Go.RowKit
variable {p:Addr}{xs:Array Operand}{ats:Array TypeId}{b:Bool}{y:Code}{fn:Func}{f:FuncId}{a z:Int}{kd:IntKind}{l:List Oper}{cs vs:List Value}{e id id' j m s t:Nat}{c i x:Operand}{A:Option Addr}{dst:Option Nat}{k:TK}{yt:TypeId}{u v:Value}{Φ:Value->World->Prop}
class Tab (P:Program) (tt:outParam TT):Prop where
 ok:TOk P tt
 mixed:P.follows .mixedOrders=true
section
variable {P:Program} {n:Nat} {al:AL} {w:World} {Q Q':Exit->Act->World->Prop} {ops:Array Oper} {rest:List Oper} {drest:List (Nat×Oper)}
variable {d ty:Nat} {op:Op} {pos:String} {aft:Array Edge} {tt:TT}
theorem κ1{x:Code}(h:WC P n x (Exit.then (y.wp P Q) Q) al w): WC P n (.seq x y) Q al w:=wseq h
theorem κ2(h:WL P n l.toArray Q l al w): WC P n (.region id l.toArray false) Q al w:=Qvg h
theorem κ3{c:Code}(h:WC P n c (Exit.inBlock id Q) al w): WC P n (.block id c) Q al w:=Qyc h
theorem κ4(h:QX n Q .normal al w): WC P n .skip Q al w:=wskip h
theorem κ5(h:QX n Q (.exit id) al w): WC P n (.exit id) Q al w:=wexit h
theorem κ6(h:QX n Q .ret al w): WC P n .ret Q al w:=wret h
theorem κ7{x:Code}(h:WC P n x Q al w)(hc:ev al c=some (.bool true):=by rfl): WC P n (.cond c x y) Q al w:=Jms hc h
theorem κ8{x:Code}(h:WC P n y Q al w)(hc:ev al c=some (.bool false):=by rfl): WC P n (.cond c x y) Q al w:=Jmt hc h
theorem χ1(h:WC P n y Q' al w): QX n (Exit.then (y.wp P Q') Q) .normal al w:=qnext h
theorem χ2(h:QX n Q .normal al w): QX n (Exit.inBlock id Q) .normal al w:=Qsh h
theorem χ3{y:Act->World->Prop}(h:QX n Q .ret al w): QX n (Exit.then y Q) .ret al w:=qret h
theorem χ4(h:QX n Q .ret al w): QX n (Exit.inBlock id Q) .ret al w:=bret h
theorem χ5(h:QX n Q .normal al w): QX n (Exit.inBlock id Q) (.exit id) al w:=bexit h
theorem χ6(h:QX n Q (.exit id') al w)(hne:Nat.beq id' id=false:=by rfl): QX n (Exit.inBlock id Q) (.exit id') al w:=Qsg hne h
theorem χ7{y:Act->World->Prop}(h:QX n Q (.exit id) al w): QX n (Exit.then y Q) (.exit id) al w:=qexit h
theorem ω1{y:Operand}{t:TypeId}{b:Int}(k:WL P n ops Q rest ((d,.int .i64 (a+b))::al) w)(hx:ev al x=some (.int .i64 a):=by rfl)(hy:ev al y=some (.int .i64 b):=by rfl)(hd:Nat.blt d n=true:=by rfl)(hc:-9223372036854775808<=a+b/\a+b<=9223372036854775807:=by omega):
  WL P n ops Q (⟨some d,.binOp .add t x y yt,ty,pos,aft,none⟩::rest) al w:=wadd hx hy hc hd k
theorem ω2{y:Operand}{t:TypeId}{b:Int}(k:WL P n ops Q rest ((d,.int .i64 (a-b))::al) w)(hx:ev al x=some (.int .i64 a):=by rfl)(hy:ev al y=some (.int .i64 b):=by rfl)(hd:Nat.blt d n=true:=by rfl)(hc:-9223372036854775808<=a-b/\a-b<=9223372036854775807:=by omega):
  WL P n ops Q (⟨some d,.binOp .sub t x y yt,ty,pos,aft,none⟩::rest) al w:=wsub hx hy hc hd k
theorem ω3{y:Operand}{t:TypeId}{b:Int}(k:WL P n ops Q rest ((d,.int .i64 (a*b))::al) w)(hx:ev al x=some (.int .i64 a):=by rfl)(hy:ev al y=some (.int .i64 b):=by rfl)(hd:Nat.blt d n=true:=by rfl)(hc:-9223372036854775808<=a*b/\a*b<=9223372036854775807:=by omega):
  WL P n ops Q (⟨some d,.binOp .mul t x y yt,ty,pos,aft,none⟩::rest) al w:=wmul hx hy hc hd k
theorem ω4[h:Tab P tt](k:WL P n ops Q rest ((d,v)::al) w)(hv:pv tt (ev al) op=some v:=by rfl)(hd:Nat.blt d n=true:=by rfl): WL P n ops Q (⟨some d,op,ty,pos,aft,none⟩::rest) al w:=wp h.ok hv hd k
theorem ω5(h:QX n Q .normal al w): WL P n ops Q [] al w:=Jg h
theorem ω6(k:WL P n ops Q (⟨dst,op,ty,pos,aft,none⟩::rest) al w)(hj:Zn ops j=some s:=by rfl)(hs:lk al s=some (.bool b):=by rfl): WL P n ops Q (⟨dst,op,ty,pos,aft,some (j,b)⟩::rest) al w:=Qvq hj hs k
theorem ω7{c:Bool}(k:WL P n ops Q rest ((d,undef)::al) w)(hj:Zn ops j=some s:=by rfl)(hs:lk al s=some (.bool b):=by rfl)(hne:(b == c)=false:=by rfl)(hd:Nat.blt d n=true:=by rfl):
  WL P n ops Q (⟨some d,op,ty,pos,aft,some (j,c)⟩::rest) al w:=wpass hj hs hne hd k
theorem ω8[h:Tab P tt](k:WL P n ops Q rest al w)(hv:pv tt (ev al) op=some v:=by rfl): WL P n ops Q (⟨none,op,ty,pos,aft,none⟩::rest) al w:=wpn h.ok hv k
theorem Jcf{a:Act}(ha:Fr n al a)(hj:Zn ops j=some s)(hs:lk al s=some undef): yielded ops a.tmps j=none:=by
 unfold Zn at hj;rw [Xz]at hj;split at hj
 .rename_i o ho;have C:ops[j]?=some o:=by rw [<-ho];simp
  have:=ha.has s _ hs;simp only [Array.getD_eq_getD_getElem?]at this;cases hq:a.tmps[s]? with
  | none=>simp [yielded,C,hj,hq]
  | some u=>
   rw [hq]at this;simp only [Option.getD_some]at this;subst this;simp [yielded,C,hj,hq,undef]
 .cases hj
theorem ω9{c:Bool}(k:WL P n ops Q rest ((d,undef)::al) w)(hj:Zn ops j=some s:=by rfl)(hs:lk al s=some undef:=by rfl)(hd:Nat.blt d n=true:=by rfl):
  WL P n ops Q (⟨some d,op,ty,pos,aft,some (j,c)⟩::rest) al w:=λa u=>by
 have o:d<n:=by (have:d+1<=n:=by simpa [Nat.blt] using hd);(omega)
 have C:=Jcf (ops:=ops) u hj hs;unfold wpList;have G:¬ Region.wanted (⟨some d,op,ty,pos,aft,some (j,c)⟩:Oper) (yielded ops a.tmps)=true:=by simp [Region.wanted,C]
 rw [if_neg G];exact k _ (u.put o undef)
theorem δ9{kd:Nat}{c:Bool}(k:WD P n ops Q drest ((d,undef)::al) w)(hj:Zn ops j=some s:=by rfl)(hs:lk al s=some undef:=by rfl)(hd:Nat.blt d n=true:=by rfl):
  WD P n ops Q ((kd,⟨some d,op,ty,pos,aft,some (j,c)⟩)::drest) al w:=λa G=>by
 have o:d<n:=by (have:d+1<=n:=by simpa [Nat.blt] using hd);(omega)
 have J:=Jcf (ops:=ops) G hj hs;have C:Region.wanted (⟨some d,op,ty,pos,aft,some (j,c)⟩:Oper) (yielded ops a.tmps)=false:=by simp [Region.wanted,J]
 have u:=k _ (G.put o undef);unfold Qm wk1;match kd with
 | 0=>exact ⟨undef,.inr ⟨C,rfl⟩,u⟩
 | 1=>simp only [C];exact u
 | m+2=>simp only [C];exact u
theorem δ1{y:Operand}{t:TypeId}{b:Int}(k:WD P n ops Q drest ((d,.int .i64 (a+b))::al) w)(hx:ev al x=some (.int .i64 a):=by rfl)(hy:ev al y=some (.int .i64 b):=by rfl)(hd:Nat.blt d n=true:=by rfl)(hc:-9223372036854775808<=a+b/\a+b<=9223372036854775807:=by omega):
  WD P n ops Q ((0,⟨some d,.binOp .add t x y yt,ty,pos,aft,none⟩)::drest) al w:=dadd hx hy hc hd k
theorem δ2{y:Operand}{t:TypeId}{b:Int}(k:WD P n ops Q drest ((d,.int .i64 (a-b))::al) w)(hx:ev al x=some (.int .i64 a):=by rfl)(hy:ev al y=some (.int .i64 b):=by rfl)(hd:Nat.blt d n=true:=by rfl)(hc:-9223372036854775808<=a-b/\a-b<=9223372036854775807:=by omega):
  WD P n ops Q ((0,⟨some d,.binOp .sub t x y yt,ty,pos,aft,none⟩)::drest) al w:=dsub hx hy hc hd k
theorem δ4[h:Tab P tt](k:WD P n ops Q drest ((d,v)::al) w)(hv:pv tt (ev al) op=some v:=by rfl)(hd:Nat.blt d n=true:=by rfl): WD P n ops Q ((0,⟨some d,op,ty,pos,aft,none⟩)::drest) al w:=dp h.ok hv hd k
theorem δ5(h:QX n Q .normal al w): WD P n ops Q [] al w:=Vb h
theorem δ6{kd:Nat}(k:WD P n ops Q ((kd,⟨dst,op,ty,pos,aft,none⟩)::drest) al w)(hj:Zn ops j=some s:=by rfl)(hs:lk al s=some (.bool b):=by rfl): WD P n ops Q ((kd,⟨dst,op,ty,pos,aft,some (j,b)⟩)::drest) al w:=Qpn hj hs k
theorem δ7{kd:Nat}{c:Bool}(k:WD P n ops Q drest ((d,undef)::al) w)(hj:Zn ops j=some s:=by rfl)(hs:lk al s=some (.bool b):=by rfl)(hne:(b == c)=false:=by rfl)(hd:Nat.blt d n=true:=by rfl):
  WD P n ops Q ((kd,⟨some d,op,ty,pos,aft,some (j,c)⟩)::drest) al w:=dpass hj hs hne hd k
theorem δ8[h:Tab P tt](k:WD P n ops Q drest al w)(hv:pv tt (ev al) op=some v:=by rfl): WD P n ops Q ((0,⟨none,op,ty,pos,aft,none⟩)::drest) al w:=dpn h.ok hv k
theorem ct{x:Code}(hb:b=true)(h:WC P n x Q al w)(hc:ev al c=some (.bool b):=by rfl): WC P n (.cond c x y) Q al w:=Qvv hc hb h
theorem cf{x:Code}(hb:b=false)(h:WC P n y Q al w)(hc:ev al c=some (.bool b):=by rfl): WC P n (.cond c x y) Q al w:=Qvt hc hb h
theorem ci{x:Code}(ht:b=true->WC P n x Q al w)(hf:b=false->WC P n y Q al w)(hc:ev al c=some (.bool b):=by rfl): WC P n (.cond c x y) Q al w:=wcond hc ht hf
theorem kt(s:Nat)(hb:b=true)(k:WL P n ops Q l ((s,.bool true)::al) w)(hs:lk al s=some (.bool b):=by rfl): WL P n ops Q l al w:=wkt s hs hb k
theorem kf(s:Nat)(hb:b=false)(k:WL P n ops Q l ((s,.bool false)::al) w)(hs:lk al s=some (.bool b):=by rfl): WL P n ops Q l al w:=wkf s hs hb k
theorem ki(s:Nat)(ht:b=true->WL P n ops Q l ((s,.bool true)::al) w)(hf:b=false->WL P n ops Q l ((s,.bool false)::al) w)(hs:lk al s=some (.bool b):=by rfl): WL P n ops Q l al w:=wpart s hs ht hf
theorem kv(s:Nat)(hv:v=u)(k:WL P n ops Q l ((s,u)::al) w)(hs:lk al s=some v:=by rfl): WL P n ops Q l al w:=wknow s u hs hv k
theorem dkt{l:List (Nat×Oper)}(s:Nat)(hb:b=true)(k:WD P n ops Q l ((s,.bool true)::al) w)(hs:lk al s=some (.bool b):=by rfl): WD P n ops Q l al w:=by subst hb;exact k.sub (Sub.cons hs Sub.refl)
theorem dkf{l:List (Nat×Oper)}(s:Nat)(hb:b=false)(k:WD P n ops Q l ((s,.bool false)::al) w)(hs:lk al s=some (.bool b):=by rfl): WD P n ops Q l al w:=by subst hb;exact k.sub (Sub.cons hs Sub.refl)
theorem dki{l:List (Nat×Oper)}(s:Nat)(ht:b=true->WD P n ops Q l ((s,.bool true)::al) w)(hf:b=false->WD P n ops Q l ((s,.bool false)::al) w)(hs:lk al s=some (.bool b):=by rfl): WD P n ops Q l al w:=dpart s hs ht hf
theorem dkv{l:List (Nat×Oper)}(s:Nat)(hv:v=u)(k:WD P n ops Q l ((s,u)::al) w)(hs:lk al s=some v:=by rfl): WD P n ops Q l al w:=dknow s u hs hv k
theorem ld[h:Tab P tt](hc:w.cell? p=some v)(kk:WL P n ops Q rest ((d,v)::al) w)(ht:tk tt t=some k:=by rfl)(hk:Vm k.desc=true:=by rfl)(hx:ev al x=some (.pointer (some p)):=by rfl)(hd:Nat.blt d n=true:=by rfl): WL P n ops Q (⟨some d,.load t x,ty,pos,aft,none⟩::rest) al w:=wload h.ok ht hk hx hc hd kk
theorem dld[h:Tab P tt](hc:w.cell? p=some v)(kk:WD P n ops Q drest ((d,v)::al) w)(ht:tk tt t=some k:=by rfl)(hk:Vm k.desc=true:=by rfl)(hx:ev al x=some (.pointer (some p)):=by rfl)(hd:Nat.blt d n=true:=by rfl): WD P n ops Q ((0,⟨some d,.load t x,ty,pos,aft,none⟩)::drest) al w:=dload h.ok ht hk hx hc hd kk
theorem lds[h:Tab P tt](hc:∀ j u,cs[j]?=some u->w.cell? (p.add j)=some u)(kk:WL P n ops Q rest ((d,.agg cs.toArray)::al) w)(ht:tk tt t=some k:=by rfl)(hk:k.desc=.invalid:=by rfl)(hl:k.size=cs.length:=by rfl)(hx:ev al x=some (.pointer (some p)):=by rfl)(hd:Nat.blt d n=true:=by rfl): WL P n ops Q (⟨some d,.load t x,ty,pos,aft,none⟩::rest) al w:=Qvk h.ok ht hk hl hx hc hd kk
theorem Qw[h:Tab P tt](hc:∀ j u,cs[j]?=some u->w.cell? (p.add j)=some u)(kk:WD P n ops Q drest ((d,.agg cs.toArray)::al) w)(ht:tk tt t=some k:=by rfl)(hk:k.desc=.invalid:=by rfl)(hl:k.size=cs.length:=by rfl)(hx:ev al x=some (.pointer (some p)):=by rfl)(hd:Nat.blt d n=true:=by rfl): WD P n ops Q ((0,⟨some d,.load t x,ty,pos,aft,none⟩)::drest) al w:=Qpg h.ok ht hk hl hx hc hd kk
theorem ix[h:Tab P tt]{c:Nat}(j:Nat)(hr:Rd w 1 A m cs)(hlt:j<m)(kk:WL P n ops Q rest ((d,.pointer (some (adr A j)))::al) w)(ht:tk tt t=some k:=by rfl)(hk:k.desc=.slice e:=by rfl)(hz:k.esz=1:=by rfl)(hx:ev al x=some (.slice A m c):=by rfl)(hi:ev al i=some (.int kd z):=by rfl)(hj:z=(j:Int):=by first|rfl|omega)(hd:Nat.blt d n=true:=by rfl):
  WL P n ops Q (⟨some d,.indexAddr t x i,ty,pos,aft,none⟩::rest) al w:=Qvn h.ok j ht hk hz hx hi hr hj hlt hd kk
theorem dix[h:Tab P tt]{c:Nat}(j:Nat)(hr:Rd w 1 A m cs)(hlt:j<m)(kk:WD P n ops Q drest ((d,.pointer (some (adr A j)))::al) w)(ht:tk tt t=some k:=by rfl)(hk:k.desc=.slice e:=by rfl)(hz:k.esz=1:=by rfl)(hx:ev al x=some (.slice A m c):=by rfl)(hi:ev al i=some (.int kd z):=by rfl)(hj:z=(j:Int):=by first|rfl|omega)(hd:Nat.blt d n=true:=by rfl):
  WD P n ops Q ((0,⟨some d,.indexAddr t x i,ty,pos,aft,none⟩)::drest) al w:=Qpl h.ok j ht hk hz hx hi hr hj hlt hd kk
theorem ixq[h:Tab P tt]{c:Nat}(sz j:Nat)(hr:Rd w sz A m cs)(hlt:j<m)(kk:WL P n ops Q rest ((d,.pointer (some (adr A (j*sz))))::al) w)(ht:tk tt t=some k:=by rfl)(hk:k.desc=.slice e:=by rfl)(hz:k.esz=sz:=by rfl)(hx:ev al x=some (.slice A m c):=by rfl)(hi:ev al i=some (.int kd z):=by rfl)(hj:z=(j:Int):=by first|rfl|omega)(h0:0<sz:=by omega)(hd:Nat.blt d n=true:=by rfl):
  WL P n ops Q (⟨some d,.indexAddr t x i,ty,pos,aft,none⟩::rest) al w:=Jmq h.ok (j*sz) j ht hk hz hx hi hr hj hlt h0 rfl hd kk
theorem Kj[h:Tab P tt]{c:Nat}(sz j:Nat)(hr:Rd w sz A m cs)(hlt:j<m)(kk:WD P n ops Q drest ((d,.pointer (some (adr A (j*sz))))::al) w)(ht:tk tt t=some k:=by rfl)(hk:k.desc=.slice e:=by rfl)(hz:k.esz=sz:=by rfl)(hx:ev al x=some (.slice A m c):=by rfl)(hi:ev al i=some (.int kd z):=by rfl)(hj:z=(j:Int):=by first|rfl|omega)(h0:0<sz:=by omega)(hd:Nat.blt d n=true:=by rfl):
  WD P n ops Q ((0,⟨some d,.indexAddr t x i,ty,pos,aft,none⟩)::drest) al w:=Qxb h.ok (j*sz) j ht hk hz hx hi hr hj hlt h0 rfl hd kk
theorem sto[h:Tab P tt]{y:Operand}(hc:w.cell? p=some u)(hf:w.frozen? p=false)(kk:WL P n ops Q rest al (w.setCell p v))(ht:tk tt t=some k:=by rfl)(hk:k.size=1:=by rfl)(hp:Vm k.desc=true:=by rfl)(hx:ev al x=some (.pointer (some p)):=by rfl)(hy:ev al y=some v:=by rfl)(hv:v.oneCell'=true:=by rfl): WL P n ops Q (⟨none,.store t x y,ty,pos,aft,none⟩::rest) al w:=Jlt h.ok ht hk hp hx hy hv hc hf kk
theorem bx(kk:∀ w1 b,Ext w w1->w.heap.size<=b->Blk w1 b t cs->WL P n ops Q rest ((d,.pointer (some ⟨b,0,none⟩))::al) w1)(hx:ev al x=some v:=by rfl)(hv:v.cells=cs.toArray:=by rfl)(hd:Nat.blt d n=true:=by rfl): WL P n ops Q (⟨some d,.box t x,ty,pos,aft,none⟩::rest) al w:=wbox hx hv hd kk
theorem cl(hc:Ret P f vs w Φ)(k:∀ v w',Φ v w'->WL P n ops Q rest ((d,v)::al) w')(hx:evs al xs.toList=some vs:=by rfl)(hd:Nat.blt d n=true:=by rfl):
  WL P n ops Q (⟨some d,.call { callee:=.value (.func f),args:=xs,argTypes:=ats },ty,pos,aft,none⟩::rest) al w:=wcall hx hd hc k
theorem dcl(hc:Ret P f vs w Φ)(k:∀ v w',Φ v w'->Ext w w'/\WD P n ops Q drest ((d,v)::al) w')(hx:evs al xs.toList=some vs:=by rfl)(hd:Nat.blt d n=true:=by rfl):
  WD P n ops Q ((1,⟨some d,.call { callee:=.value (.func f),args:=xs,argTypes:=ats },ty,pos,aft,none⟩)::drest) al w:=dcall hx hd hc k
theorem dr[h:Tab P tt](s:List (Nat×Nat))(hB:Jzx l.toArray s=true)(k:WD P n l.toArray Q (Jo l s) al w.drew): WC P n (.region id l.toArray true) Q al w:=wdraw s h.mixed hB k
theorem Jq(h:Φ v w)(hr:fn.results = #[.tmp t]:=by rfl)(ht:lk al t=some v:=by rfl): QX n (Vz P fn Φ) .ret al w:=done1 hr ht h
theorem Yw{u:Nat}{x y:Value}(h:Φ (.tuple #[x,y]) w)(hr:fn.results = #[.tmp t,.tmp u]:=by rfl)(ht:lk al t=some x:=by rfl)(hu:lk al u=some y:=by rfl): QX n (Vz P fn Φ) .ret al w:=done2 hr ht hu h
theorem Zb{u:Nat}{x y z:Value}(h:Φ (.tuple #[x,y,z]) w)(hr:fn.results = #[.tmp t,.tmp u,.tmp s]:=by rfl)(ht:lk al t=some x:=by rfl)(hu:lk al u=some y:=by rfl)(hs:lk al s=some z:=by rfl): QX n (Vz P fn Φ) .ret al w:=done3 hr ht hu hs h
theorem Jxw{u r:Nat}{x y z q:Value}(h:Φ (.tuple #[x,y,z,q]) w)(hr:fn.results = #[.tmp t,.tmp u,.tmp s,.tmp r]:=by rfl)(ht:lk al t=some x:=by rfl)(hu:lk al u=some y:=by rfl)(hs:lk al s=some z:=by rfl)(hq:lk al r=some q:=by rfl): QX n (Vz P fn Φ) .ret al w:=done4 hr ht hu hs hq h
end
end Go.Wk
namespace Go.Wk
open Go.RowKit
variable {parts:Array (Nat×Operand)}{pw:Array (Nat×Value)}{zc zl:Int}{kc kd kl:IntKind}{cs news vs xs xs':List Value}{bytes c c' dst e len m m' n src t:Nat}{x y:Operand}{A A':Option Addr}{k k2 k3:TK}{v v' z:Value}{a w w':World}
theorem Rd.take{sz:Nat}(h:Rd w sz A n cs)(hm:m<=n): Rd w sz A m (cs.take (m*sz)):=by
 refine ⟨?_,λh0=>?_⟩
 .rw [List.length_take,h.1];exact Nat.min_eq_left (nO _ hm)
 .obtain ⟨J,e,G,C⟩:=h.2 (by rw [List.length_take]at h0;omega);refine ⟨J,e,G,λj u o=>?_⟩;rw [List.getElem?_take]at o;split at o
  .exact C j u o
  .cases o
theorem Rd.drop{sz:Nat}(h:Rd w sz A n cs){k:Nat}(hk:k<=n)(hc:n<=c): Rd w sz (if c=k then A else A.map (·.add (k*sz))) (n-k) (cs.drop (k*sz)):=by
 have:=h.cut k n c hk (Nat.le_refl _) (.inl hc);rwa [List.take_of_length_le (by rw [List.length_drop,h.1,Nat.sub_mul];exact Nat.le_refl _)]at this
theorem Xu{base sz base' e' sz':Nat}(h:w.ownsRow base e sz v m xs)(h':w.ownsRow base' e' sz' v' m' xs')(hg:w.grownBy w' v'.ownBlock)(hne:Nat.beq e e'=false): w'.ownsRow base e sz v m xs:=by
 refine h.kept hg ?_;have o:e≠e':=by intro u;subst u;simp at hne
 rcases h.2 with ⟨rfl,_⟩|⟨g,cap,cur,rfl,_,hh,_⟩
 .exact .inl rfl
 .right
  intro C;rcases h'.2 with ⟨rfl,_⟩|⟨g',cap',cur',rfl,_,hh',_⟩
  .simp [Value.ownBlock]at C
  .have:g=g':=by simpa [Value.ownBlock] using C
   subst this;rw [hh]at hh';injection hh' with hh'
   injection hh' with _ ht
   exact o ht
section
variable {P:Program} {n:Nat} {al:AL} {w:World} {Q Q' Q2:Exit->Act->World->Prop} {ops:Array Oper}
theorem Jwz(hq:∀ e a w,Q e a w->Q2 e a w): ∀ (l:List Oper) (a:Act) (w:World),wpList P ops Q l a w->wpList P ops Q2 l a w
 | [],a,w,h=>hq _ _ _ h
 | o::l,a,w,h=>by
  unfold wpList at h ⊢;split
  .rename_i hw;rw [if_pos hw]at h;rcases h with h|⟨h1,a',w',h2⟩
   .exact .inl (Yj (Q:=Q) (λc a w hp=>hq _ _ _ hp) (λ⟨a,w,h⟩=>⟨a,w,hq _ _ _ h⟩) (Oper.wp_mono (λa w h=>Jwz hq l a w h) h))
   .exact .inr ⟨h1,a',w',hq _ _ _ h2⟩
  .rename_i hw;rw [if_neg hw]at h;exact Jwz hq l _ _ h
theorem Vg{α:Type}{d:Code}{l:List Oper}(fr:α->AL)(I:α->World->Prop)(h1:WL P n ops (Exit.then (λa w=>∃ x,Fr n (fr x) a/\I x w) Q) l al w)(h2:∀ x w,I x w->WC P n d Q' (fr x) w): WL P n ops (Exit.then (d.wp P Q') Q) l al w:=by
 intro a u;refine Jwz ?_ l a w (h1 a u);intro e J w' o;cases e with
 | normal=>obtain ⟨x,G,C⟩:=o;exact h2 x w' C J G
 | exit id=>exact o
 | goto l=>exact o
 | ret=>exact o
 | panic c=>exact o
 | outgrown=>exact o
end
section
variable {P:Program} {n:Nat} {al:AL} {w:World} {Q Q':Exit->Act->World->Prop} {ops:Array Oper} {rest:List Oper} {drest:List (Nat×Oper)}
variable {d ty:Nat} {op:Op} {pos:String} {aft:Array Edge} {tt:TT}
theorem mk0{sz:Nat}(hE:ElT P t e sz bytes z)(c:Nat)(hb:bytes*c<=281474976710656)(h63:c<=maxLen)(kk:∀ w1 A,Ext w w1->w1.ownsRow w.heap.size e sz (.slice A 0 c) 0 []->WL P n ops Q rest ((d,.slice A 0 c)::al) w1)(hx:ev al x=some (.int kl 0):=by rfl)(hy:ev al y=some (.int kc zc):=by rfl)(hc:zc=(c:Int):=by first|rfl|omega)(hd:Nat.blt d n=true:=by rfl): WL P n ops Q (⟨some d,.makeSlice t x y,ty,pos,aft,none⟩::rest) al w:=by
 subst hc;obtain ⟨i,hi,J,u,C⟩:=hE.info;subst C;obtain ⟨w1,Z,U,o⟩:=run_make_own (P:=P) w w.heap.size t e i z sz hE.sl hi J u kl kc c hb h63 (Nat.le_refl _);exact wop hd (λa G=>by simp [execOp,G.ev hx,G.ev hy,Z]) (kk w1 _ ⟨o.os,o.tape,o.output,o.size,λk O=>o.block k O (by simp)⟩ U)
theorem mkn{sz:Nat}(hE:ElT P t e sz bytes z)(m:Nat)(hb:bytes*m<=281474976710656)(h63:m<=maxLen)(kk:∀ w1 A,Ext w w1->w1.ownsRow w.heap.size e sz (.slice A m m) m (madeCells z.cells (m*sz)).toList->(∀ g,A=some g->w.heap.size<=g.block)->WL P n ops Q rest ((d,.slice A m m)::al) w1)(hx:ev al x=some (.int kl zl):=by rfl)(hy:ev al y=some (.int kc zc):=by rfl)(hl:zl=(m:Int):=by first|rfl|omega)(hc:zc=(m:Int):=by first|rfl|omega)(hd:Nat.blt d n=true:=by rfl): WL P n ops Q (⟨some d,.makeSlice t x y,ty,pos,aft,none⟩::rest) al w:=by
 subst hc;subst hl;obtain ⟨i,hi,O,u,G⟩:=hE.info;subst G;obtain ⟨w1,h1,Z,o⟩:=run_make_full (P:=P) w w.heap.size t e i z sz hE.sl hi O u kl kc m hb h63 (Nat.le_refl _);exact wop hd (λa J=>by simp [execOp,J.ev hx,J.ev hy,h1]) (kk w1 _ ⟨o.os,o.tape,o.output,o.size,λk U=>o.block k U (by simp)⟩ Z (λg C=>by injection C with C;subst C;exact Nat.le_refl _))
theorem slh[hT:Tab P tt]{z:Int}(h:Nat)(kk:WL P n ops Q rest ((d,.slice A h c)::al) w)(ht:tk tt t=some k:=by rfl)(hk:k.desc=.slice e:=by rfl)(hx:ev al x=some (.slice A m c):=by rfl)(hy:ev al y=some (.int kd z):=by rfl)(hz:z=(h:Int):=by first|rfl|omega)(h2:h<=c:=by omega)(hd:Nat.blt d n=true:=by rfl):
  WL P n ops Q (⟨some d,.slice t x none (some y) none,ty,pos,aft,none⟩::rest) al w :=
 Jww hT.ok 0 h c A h c ht hk rfl hx rfl ⟨kd,z,hy,hz⟩ rfl (.inl rfl) (Nat.zero_le _) h2 (Nat.le_refl _) (cut0 A _ _) rfl rfl hd kk
theorem sll[hT:Tab P tt]{z:Int}(l:Nat)(kk:WL P n ops Q rest ((d,.slice (if c=l then A else A.map (·.add (l*k.esz))) (m-l) (c-l))::al) w)(ht:tk tt t=some k:=by rfl)(hk:k.desc=.slice e:=by rfl)(hx:ev al x=some (.slice A m c):=by rfl)(hy:ev al y=some (.int kd z):=by rfl)(hz:z=(l:Int):=by first|rfl|omega)(h1:l<=m:=by omega)(h2:m<=c:=by omega)(hd:Nat.blt d n=true:=by rfl):
  WL P n ops Q (⟨some d,.slice t x (some y) none none,ty,pos,aft,none⟩::rest) al w :=
 Jww hT.ok l m c _ _ _ ht hk rfl hx ⟨kd,z,hy,hz⟩ rfl rfl (.inl rfl) h1 h2 (Nat.le_refl _) rfl rfl rfl hd kk
theorem apo(hxa:Ext a w){sz:Nat}(hE:ElT P t e sz bytes z)(ha:w.ownsRow a.heap.size e sz v m xs)(hr:Rd w sz A' m' news)(h1:∀ u∈news,u.oneCell'=true)(h63:m+m'<=maxLen)(hby:(m+m')*bytes<=140737488355328)(kk:∀ v' w',w'.ownsRow a.heap.size e sz v' (m+m') (xs++news)->Ext a w'->w.grownBy w' v.ownBlock->(∀ g,v'.ownBlock=some g->v.ownBlock=some g∨w.heap.size<=g)->WL P n ops Q rest ((d,v')::al) w')(hx:ev al x=some v:=by rfl)(hy:ev al y=some (.slice A' m' c'):=by rfl)(hd:Nat.blt d n=true:=by rfl):
  WL P n ops Q (⟨some d,.call { callee:=.builtin .append,args:=#[x,y],argTypes:=#[t,t] },ty,pos,aft,none⟩::rest) al w :=
 Qyd hxa hE hx hy (.inl ha) hr h1 h63 hby hd λv' w' _ _ J G C o=>kk v' w' (J ha) G C o
theorem bsl(hb:∀ w:World,(Instr.buildSlice t len pw).run P w=.ok (.slice (some ⟨w.heap.size,0,none⟩) len len) (w.alloc (.cells cs.toArray e)))(kk:∀ w1 b,Ext w w1->w.heap.size<=b->Blk w1 b e cs->WL P n ops Q rest ((d,.slice (some ⟨b,0,none⟩) len len)::al) w1)(hx:evs al (parts.toList.map (·.2))=some vs:=by rfl)(hp:((parts.toList.map (·.1)).zip vs).toArray=pw:=by rfl)(hd:Nat.blt d n=true:=by rfl):
  WL P n ops Q (⟨some d,.buildSlice t len parts,ty,pos,aft,none⟩::rest) al w:=by subst hp;exact Qvz hx hb hd kk
theorem bld(hb:(Instr.build t pw).run P w=.ok v w)(kk:WL P n ops Q rest ((d,v)::al) w)(hx:evs al (parts.toList.map (·.2))=some vs:=by rfl)(hp:((parts.toList.map (·.1)).zip vs).toArray=pw:=by rfl)(hd:Nat.blt d n=true:=by rfl): WL P n ops Q (⟨some d,.build t parts,ty,pos,aft,none⟩::rest) al w:=by subst hp;exact Qyb hx hb hd kk
theorem sb[h:Tab P tt]{l:List UInt8}(hr:Rd w 1 A m (Bc l))(kk:WL P n ops Q rest ((d,.string (str l))::al) w)(hs:tk tt src=some k:=by rfl)(hk:k.desc=.slice e:=by rfl)(he:tk tt e=some k3:=by rfl)(hk3:k3.desc=.int .u8:=by rfl)(hdst:tk tt dst=some k2:=by rfl)(hk2:k2.desc=.string:=by rfl)(hx:ev al x=some (.slice A m c):=by rfl)(hd:Nat.blt d n=true:=by rfl): WL P n ops Q (⟨some d,.convert src dst x,ty,pos,aft,none⟩::rest) al w:=Qvx h.ok hs hk he hk3 hdst hk2 hx hr hd kk
end
end Go.Wk
namespace Go.Wk
open Go.RowKit
variable {v:Value}
section
variable {P:Program} {n:Nat} {al:AL} {w:World} {Q:Exit->Act->World->Prop} {ops:Array Oper} {rest:List Oper}
variable {d ty:Nat} {op:Op} {pos:String} {aft:Array Edge} {tt:TT}
theorem wext{f:FuncId}{xs:Array Operand}{ats:Array TypeId}{vs:List Value}{w':World}(hc:(callFunc f vs.toArray).run P w=.ok (.value v) w')(k:WL P n ops Q rest ((d,v)::al) w')(hx:evs al xs.toList=some vs:=by rfl)(hd:Nat.blt d n=true:=by rfl): WL P n ops Q (⟨some d,.call { callee:=.value (.func f),args:=xs,argTypes:=ats },ty,pos,aft,none⟩::rest) al w :=
 wop hd (λa o=>by
  have u:xs.map a.eval=vs.toArray:=by rw [<-o.evs hx,<-List.map_toArray,Array.toArray_toList]
  simp [execOp,resolve,u,Act.eval,Deferred.ofValue,invoke,hc]) k
theorem weqs{t t2:TypeId}{x y:Operand}{xs ys:Array Value}(hg:P.eqGuardType P.depth t=false)(hb:(binOp .eql t (.agg xs) (.agg ys)).run P w=.ok v w)(k:WL P n ops Q rest ((d,v)::al) w)(hx:ev al x=some (.agg xs):=by rfl)(hy:ev al y=some (.agg ys):=by rfl)(hd:Nat.blt d n=true:=by rfl): WL P n ops Q (⟨some d,.binOp .eql t x y t2,ty,pos,aft,none⟩::rest) al w :=
 wop hd (λa o=>by
  simp only [execOp,o.ev hx,o.ev hy,Sem.run_bind,run_eqGuard_agg w _ _ _ _ _ _ hg,Result.andThen_ok,hb];rfl) k
end
end Go.Wk
namespace Go.Wk
open Go.RowKit
variable {fn:Func}{cs cs':List Value}{b c t tb:Nat}{x y:Operand}{k:TK}{Φ:Value->World->Prop}
section
variable {P:Program} {n:Nat} {al:AL} {w:World} {Q:Exit->Act->World->Prop} {ops:Array Oper} {rest:List Oper}
variable {d ty:Nat} {op:Op} {pos:String} {aft:Array Edge} {tt:TT}
theorem Jjp(w:World)(g:Nat)(cs:Array Value): w.grownBy (w.setRow g cs) (some g) :=
 ⟨rfl,rfl,rfl,by rw [setRow_size];exact Nat.le_refl _,λk _ o=>setRow_other w g k cs (λe=>o (by rw [e]))⟩
theorem alc{z:Value}(hz:Qp P t=some z)(kk:∀ w1 b,Ext w w1->w.heap.size<=b->Blk w1 b t cs->WL P n ops Q rest ((d,.pointer (some ⟨b,0,none⟩))::al) w1)(hv:z.cells=cs.toArray:=by rfl)(hd:Nat.blt d n=true:=by rfl):
  WL P n ops Q (⟨some d,.alloc t,ty,pos,aft,none⟩::rest) al w:=Qyf hz hv hd kk
theorem stb[h:Tab P tt](hb:Blk w b t cs)(kk:∀ w1,Blk w1 b t cs'->w.grownBy w1 (some b)->(∀ a,Ext a w->a.heap.size<=b->Ext a w1)->WL P n ops Q rest al w1)(h1:∀ u∈cs',u.oneCell'=true)(hl:cs.length=cs'.length:=by rfl)(ht:tk tt t=some k:=by rfl)(hk:k.desc=.invalid:=by rfl)(hs:k.size=cs'.length:=by rfl)(hx:ev al x=some (.pointer (some ⟨b,0,none⟩)):=by rfl)(hy:ev al y=some (.agg cs'.toArray):=by rfl):
  WL P n ops Q (⟨none,.store t x y,ty,pos,aft,none⟩::rest) al w:=by
 have J:=Jjp w b cs'.toArray;refine Iy (λa G=>?_) (kk (w.setRow b cs'.toArray) (setRow_heap w b _ _ _ _ hb) J (λa hx G=>Qf hx J (λk hk=>by injection hk with hk;omega)));have C:=Vw w (Jqp h.ok ht hk w).2;have o:=run_storeCells_from (P:=P) b t cs' 0 cs.toArray w hb (by simpa using hl.symm) h1;simp only [List.take_zero,List.nil_append]at o;simp [execOp,G.ev hx,G.ev hy,Instr.storeAt,Instr.sureAddr,storeVar,Value.cells,C,hs,o]
theorem ldW[h:Tab P tt](hb:Blk w b tb cs)(kk:WL P n ops Q rest ((d,.agg cs.toArray)::al) w)(ht:tk tt t=some k:=by rfl)(hk:k.desc=.invalid:=by rfl)(hl:k.size=cs.length:=by rfl)(hx:ev al x=some (.pointer (some ⟨b,0,none⟩)):=by rfl)(hd:Nat.blt d n=true:=by rfl): WL P n ops Q (⟨some d,.load t x,ty,pos,aft,none⟩::rest) al w:=lds (λj u o=>hb.at o) kk ht hk hl hx hd
theorem stW[h:Tab P tt](hb:Blk w b t cs)(kk:∀ w1,Blk w1 b t cs'->w.grownBy w1 (some b)->(∀ a,Ext a w->a.heap.size<=b->Ext a w1)->WL P n ops Q rest al w1)(hy:ev al y=some (.agg cs'.toArray):=by rfl)(h1:cs'.all Value.oneCell'=true:=by rfl)(hl:cs.length=cs'.length:=by rfl)(ht:tk tt t=some k:=by rfl)(hk:k.desc=.invalid:=by rfl)(hs:k.size=cs'.length:=by rfl)(hx:ev al x=some (.pointer (some ⟨b,0,none⟩)):=by rfl):
  WL P n ops Q (⟨none,.store t x y,ty,pos,aft,none⟩::rest) al w:=stb hb kk (λu o=>List.all_eq_true.1 h1 u o) hl ht hk hs hx hy
theorem Jbd[h:Tab P tt]{t1 t2:Nat}{x y:Value}(hb:Blk w b t cs)(hp:Φ (.tuple #[.agg cs.toArray,x,y]) w)(hr:fn.results = #[.cell c t,.tmp t1,.tmp t2]:=by rfl)(ht:tk tt t=some k:=by rfl)(hk:k.desc=.invalid:=by rfl)(hs:k.size=cs.length:=by rfl)(hc:lk al c=some (.pointer (some ⟨b,0,none⟩)):=by rfl)(h1:lk al t1=some x:=by rfl)(h2:lk al t2=some y:=by rfl):
  QX n (Vz P fn Φ) .ret al w :=
 Jzb (rs:=[.cell c t,.tmp t1,.tmp t2]) (vs:=[.agg cs.toArray,x,y]) hr ⟨⟨_,hc,Ia h.ok ht hk hs (λj u o=>hb.at o)⟩,h1,h2,trivial⟩ rfl hp
theorem Iq[h:Tab P tt](hb:Blk w b t cs)(hp:Φ (.agg cs.toArray) w)(hr:fn.results = #[.cell c t]:=by rfl)(ht:tk tt t=some k:=by rfl)(hk:k.desc=.invalid:=by rfl)(hs:k.size=cs.length:=by rfl)(hc:lk al c=some (.pointer (some ⟨b,0,none⟩)):=by rfl):
  QX n (Vz P fn Φ) .ret al w :=
 Jzb (rs:=[.cell c t]) (vs:=[.agg cs.toArray]) hr ⟨⟨_,hc,Ia h.ok ht hk hs (λj u o=>hb.at o)⟩,trivial⟩ rfl hp
end
end Go.Wk
namespace Go.Wk
open Go.RowKit
variable {i id:Nat}{v:Value}
section
variable {P:Program} {ops:Array Oper} {Q:Exit->Act->World->Prop} {T:Nat->Bool}
def Jqc(P:Program)(ops:Array Oper)(Q:Exit->Act->World->Prop)(T:Nat->Bool): Nat->Array Bool->Act->World->Prop
 | 0,listed,a,w=>Region.ready .any ops listed=[]/\Q .normal a w
 | fuel+1,listed,a,w=>
  ((∀ i,unl ops listed i->T i=true)/\wpAny P .any ops Q (fuel+1) listed a w) ∨
  ((Region.ready .any ops listed=[]->Q .normal a w) /\
   ∀ i∈Region.ready .any ops listed,wpOp P ops (QF Q) i (λa' w'=>True/\Jqc P ops Q T fuel (listed.setIfInBounds i true) a' w') a w)
theorem Jmd: ∀ (fuel:Nat) (listed:Array Bool) (a:Act) (w:World),Jqc P ops Q T fuel listed a w->wpAny P .any ops Q fuel listed a w
 | 0,_,_,_,h=>h
 | fuel+1,_,_,_,h=>by
  rcases h with h|h
  .exact h.2
  .exact ⟨h.1,λi hi=>wpOp_mono (λa' w' h'=>Jmd fuel _ a' w' h'.2) (Jqb (h.2 i hi))⟩
theorem Qvj(hT:Gb ops T=true){oi:Oper}(hi:ops[i]?=some oi)(hn:T i=false)(hsel:∀ (j:Nat) (o:Oper) cs b,ops[j]?=some o->o.op≠.select cs b):
  ∀ (fuel:Nat) (listed:Array Bool) (a:Act) (w:World),
   (∀ j oj,ops[j]?=some oj->j≠i->listed.getD j true=false->(∀ e∈oj.after,Region.binds .any e=true->e.on≠i)->oi.apart ops oj=true) ->
   i∈Region.ready .any ops listed->YieldsIf P ops (λ_=>True) oi v a ->
   Jqc P ops Q T fuel (listed.setIfInBounds i true) (a.put oi.dst v) w->Jqc P ops Q T (fuel+1) listed a w:=by
 have a8:i<ops.size:=(Array.getElem?_eq_some_iff.1 hi).1;intro fuel;induction fuel with
 | zero=>
  intro listed a w _ O hy H;refine .inr ⟨λh=>(by rw [h]at O;cases O),λj hj=>?_⟩;by_cases hji:j=i
  .subst hji;exact hy.wpOp hi trivial ⟨trivial,H⟩
  .have:=ready_mono hj hji;rw [H.1]at this;cases this
 | succ fuel ih=>
  intro listed a w C O hy H;have a4:unl ops listed i:=⟨a8,(mem_ready.1 O).1⟩;refine .inr ⟨λh=>(by rw [h]at O;cases O),λj hj=>?_⟩;by_cases hji:j=i
  .subst hji;exact hy.wpOp hi trivial ⟨trivial,H⟩
  .obtain ⟨u,oj,G,a2⟩:=mem_ready.1 hj;have a7:T j=false:=Jrv hT a4 hn hj;rcases H with H|H
   .have:=H.1 j ⟨(Array.getElem?_eq_some_iff.1 G).1,by rw [getD_set_ne true (Ne.symm hji)];exact u⟩;rw [a7]at this;cases this
   .have U:=H.2 j (ready_mono hj hji);have a1:∀ e∈oj.after,Region.binds .any e=true->e.on≠i:=λe he hb a9=>by
     have U:=a2 e he hb;have h0:=(mem_ready.1 O).1;rw [a9]at U;rcases Nat.lt_or_ge i listed.size with h'|h'
     .simp [h']at h0 U;rw [h0]at U;cases U
     .simp [Array.getElem?_eq_none h']at U
    have h2:=wpOp_putIf G (C j oj G hji u a1) (λcs b=>hsel i oi cs b hi) (λcs b=>hsel j oj cs b G) (λc a w h=>h) hy U;have J:∀ k ok,ops[k]?=some ok->k≠i->(listed.setIfInBounds j true).getD k true=false ->
      (∀ e∈ok.after,Region.binds .any e=true->e.on≠i)->oi.apart ops ok=true:=λk ok hk a6 Z a5=>by
     refine C k ok hk a6 ?_ a5;by_cases hjk:j=k
     .subst hjk;exact u
     .rw [getD_set_ne true hjk]at Z;exact Z
    refine wpOp_mono (λa' w' h3=>⟨h3.2.1,ih (listed.setIfInBounds j true) a' w' J (ready_mono O (Ne.symm hji)) ?_ ?_⟩) h2
    .exact h3.1.imp (λ⟨h4,h5⟩=>⟨h4,λa3 hx=>h5 a3 trivial⟩) id
    .rw [Array.setIfInBounds_comm _ _ hji];exact h3.2.2
def wk1B(P:Program)(ops:Array Oper)(Q:Exit->Act->World->Prop)(k:Nat)(o:Oper)(K:Act->World->Prop)(a:Act)(w:World): Prop :=
 match k with
 | 0=>∃ v,YieldsIf P ops (λ_=>True) o v a/\K (a.put o.dst v) w
 | 1=>if Region.wanted o (yielded ops a.tmps) then o.wp P a w (λa' w'=>True/\K a' w') (QF Q) else K (a.put o.dst undef) w
 | _=>if Region.wanted o (yielded ops a.tmps) then o.wp P a w K (QF Q) else K (a.put o.dst undef) w
def Us(P:Program)(ops:Array Oper)(Q:Exit->Act->World->Prop): List (Nat×Oper)->Act->World->Prop
 | [],a,w=>Q .normal a w
 | p::r,a,w=>wk1B P ops Q p.1 p.2 (Us P ops Q r) a w
theorem Jmb: ∀ (s:List (Nat×Nat)) (listed:Array Bool) (a:Act) (w:World),(∀ p∈s,p.1=2)->(∀ p∈s,p.2<ops.size)->Qs ops s listed=true->Us P ops Q (Jo ops.toList s) a w->wpAny P .any ops Q s.length listed a w
 | [],listed,a,w,_,_,hB,h=>⟨by simpa [Qs] using hB,h⟩
 | (k,i)::r,listed,a,w,hk,hlt,hB,h=>by
  obtain rfl:k=2:=hk _ (mC ..);have hi:i<ops.size:=hlt _ (mC ..);simp only [Qs,Bool.and_eq_true,beq_iff_eq]at hB;obtain ⟨hr,hB'⟩:=hB;have ho:ops[i]?=some ops[i]:=Array.getElem?_eq_getElem hi;have hn:nth ops.toList i=some ops[i]:=by rw [Xz];simp [hi]
  simp only [Jo,hn,Us,wk1B]at h;refine ⟨λh0=>(by rw [hr]at h0;cases h0),λj hj=>?_⟩;rw [hr]at hj;obtain rfl:j=i:=by simpa using hj
  have hrec:∀ a w,Us P ops Q (Jo ops.toList r) a w->wpAny P .any ops Q r.length (listed.setIfInBounds j true) a w:=λa w h'=>
   Jmb r _ a w (λp hp=>hk p (List.mem_cons_of_mem _ hp)) (λp hp=>hlt p (List.mem_cons_of_mem _ hp)) hB' h'
  refine wpOp_mono hrec (Jqb ?_);unfold wpOp;simp only [ho];split
  .rename_i hw;simp only [hw,if_true]at h;exact .inl h
  .rename_i hw;simp only [hw]at h;exact h
theorem Jmh(hsel:Region.noSelect ops=true)(hT:Gb ops T=true): ∀ (s:List (Nat×Nat)) (listed:Array Bool) (a:Act) (w:World),Jxq s=true->(∀ p∈s,p.2<ops.size)->(∀ p∈s,(p.1 == 2)=T p.2) ->
  (∀ i,unl ops listed i->∃ k,(k,i)∈s)->Qs ops s listed=true->Us P ops Q (Jo ops.toList s) a w->Jqc P ops Q T s.length listed a w
 | [],listed,a,w,_,_,_,_,hB,h=>⟨by simpa [Qs] using hB,h⟩
 | (k,i)::r,listed,a,w,hk,hlt,hKT,hall,hB,h=>by
  have hi:i<ops.size:=hlt _ (mC ..);have ho:ops[i]?=some ops[i]:=Array.getElem?_eq_getElem hi;have hn:nth ops.toList i=some ops[i]:=by rw [Xz];simp [hi]
  simp only [Jxq,Bool.and_eq_true]at hk;have hTi:=hKT _ (mC ..);simp only at hTi;have hall':∀ j,unl ops (listed.setIfInBounds i true) j->∃ k,(k,j)∈r:=λj hj=>by
   by_cases hji:j=i
   .subst hji;have h2:=hj.2;rcases Nat.lt_or_ge j listed.size with h'|h'
    .simp [h']at h2
    .simp at h2
   .obtain ⟨k',hk'⟩:=hall j ⟨hj.1,by rw [<-getD_set_ne true (Ne.symm hji)];exact hj.2⟩;rcases List.mem_cons.1 hk' with h'|h'
    .injection h' with _ h';exact absurd h' hji
    .exact ⟨k',h'⟩
  have hrec:Qs ops r (listed.setIfInBounds i true)=true->∀ a w,Us P ops Q (Jo ops.toList r) a w->Jqc P ops Q T r.length (listed.setIfInBounds i true) a w:=λhB' a w h'=>
   Jmh hsel hT r _ a w hk.2 (λp hp=>hlt p (List.mem_cons_of_mem _ hp)) (λp hp=>hKT p (List.mem_cons_of_mem _ hp)) hall' hB' h'
  match k,hTi,hk,hB,h with
  | 0,hTi,hk,hB,h=>
   simp only [Qs,Bool.and_eq_true]at hB;obtain ⟨⟨hr,hf⟩,hB'⟩:=hB;simp only [Jo,hn,Us,wk1B]at h;obtain ⟨v,hy,h⟩:=h;exact Qvj hT ho (by rw [<-hTi];rfl) (Region.noSelect_spec hsel) r.length listed a w (Region.free_spec ho hf) (by simpa using hr) hy (hrec hB' _ _ h)
  | 1,hTi,hk,hB,h=>
   simp only [Qs,Bool.and_eq_true,beq_iff_eq]at hB;obtain ⟨hr,hB'⟩:=hB;simp only [Jo,hn,Us,wk1B]at h;refine .inr ⟨λh0=>(by rw [hr]at h0;cases h0),λj hj=>?_⟩;rw [hr]at hj;obtain rfl:j=i:=by simpa using hj
   unfold wpOp;simp only [ho];split
   .rename_i hw;simp only [hw,if_true]at h;exact .inl (Oper.wp_mono (λa' w' h'=>⟨h'.1,hrec hB' _ _ h'.2⟩) h)
   .rename_i hw;simp only [hw]at h;exact ⟨trivial,hrec hB' _ _ h⟩
  | 2,hTi,hk,hB,h=>
   refine .inl ⟨λj hj=>?_,Jmb ((2,i)::r) listed a w ?_ hlt hB h⟩
   .obtain ⟨k',hk'⟩:=hall j hj;have h1:=hKT _ hk';simp only at h1;rw [<-h1];rcases List.mem_cons.1 hk' with h'|h'
    .injection h' with h' _;rw [h'];rfl
    .have:=hk.1.2;simp only [bne_self_eq_false,Bool.false_or,List.all_eq_true]at this;exact this _ h'
   .intro p hp;rcases List.mem_cons.1 hp with h'|h'
    .rw [h']
    .have:=hk.1.2;simp only [bne_self_eq_false,Bool.false_or,List.all_eq_true]at this;simpa using this _ h'
  | k+3,hTi,hk,hB,h=>
   have:=hk.1.1;simp at this
end
section
variable {P:Program} {n:Nat} {al al':AL} {w:World} {Q:Exit->Act->World->Prop} {ops:Array Oper} {rest:List (Nat×Oper)}
def WDB(P:Program)(n:Nat)(ops:Array Oper)(Q:Exit->Act->World->Prop)(l:List (Nat×Oper))(al:AL)(w:World): Prop:=∀ a,Fr n al a->Us P ops Q l a w
theorem wdrawB{l:List Oper}(s:List (Nat×Nat))(hm:P.follows .mixedOrders=true)(hB:Jzx l.toArray s=true)(h:WDB P n l.toArray Q (Jo l s) al w.drew): WC P n (.region id l.toArray true) Q al w:=by
 intro a G;simp only [Jzx,Bool.and_eq_true,beq_iff_eq,List.all_eq_true,List.any_eq_true,List.mem_range]at hB;obtain ⟨⟨⟨⟨⟨⟨⟨h1,u⟩,h3⟩,h4⟩,Z⟩,U⟩,O⟩,J⟩:=hB;refine wp_region_any hm ?_;rw [<-u];refine Jmd (T:=Ua s) _ _ _ _ (Jmh h1 h3 s _ a _ h4 (λp o=>?_) (λp o=>?_) (λi hi=>?_) (by rw [u];exact U) ?_)
 .have:=O p o;have h':p.2+1<=l.toArray.size:=by simpa [Nat.blt] using this
  omega
 .simpa using Z p o
 .obtain ⟨p,o,C⟩:=J i hi.1;exact ⟨p.1,by rw [<-C];exact o⟩
 .have:=h a G;simpa using this
variable {d ty:Nat} {op:Op} {pos:String} {aft:Array Edge}
def YldB(P:Program)(n:Nat)(al:AL)(w:World)(o:Oper)(v:Value): Prop:=∀ w',True->∀ a,Fr n al a->(execOp a.eval o).run P w'=.ok (.value v) w'
theorem dyB(hy:YldB P n al w ⟨some d,op,ty,pos,aft,none⟩ v)(hd:Nat.blt d n=true)(k:WDB P n ops Q rest ((d,v)::al) w): WDB P n ops Q ((0,⟨some d,op,ty,pos,aft,none⟩)::rest) al w:=λa u=>by
 have o:d<n:=by (have:d+1<=n:=by simpa [Nat.blt] using hd);(omega)
 exact ⟨v,.inl ⟨rfl,λw' C=>hy w' C a u⟩,k _ (u.put o v)⟩
def toB(P:Program)(ops:Array Oper)(Q:Exit->Act->World->Prop)(rest:List (Nat×Oper)): Exit->Act->World->Prop
 | .normal,a,w=>Us P ops Q rest a w
 | _,_,_=>False
variable {d ty:Nat} {op:Op} {pos:String} {aft:Array Edge} {tt:TT} {drest:List (Nat×Oper)}
end
end Go.Wk
namespace Go.Wk
open Go.RowKit
variable {xs:Array Operand}{ats:Array TypeId}{captured first:Array Value}{fn:Func}{f:FuncId}{us vs:List Value}{x:Operand}{Φ:Value->World->Prop}
section
variable {P:Program} {n:Nat} {al al':AL} {w:World} {Q:Exit->Act->World->Prop} {ops:Array Oper} {drest:List (Nat×Oper)} {rest:List Oper}
variable {d ty:Nat} {op:Op} {pos:String} {aft:Array Edge} {tt:TT}
def toD(P:Program)(ops:Array Oper)(Q:Exit->Act->World->Prop)(rest:List (Nat×Oper)): Exit->Act->World->Prop
 | .normal,a,w=>Qm P ops Q rest a w
 | _,_,_=>False
theorem Qg(h:WD P n ops Q drest al w): QX n (toD P ops Q drest) .normal al w:=h
theorem Ja{o:Oper}(h:WL P n ops (toD P ops Q drest) [o] al w): WD P n ops Q ((2,o)::drest) al w:=λa J=>by
 have u:=h a J;unfold wpList at u;unfold Qm wk1;simp only;have C:¬ LetsOut (toD P ops Q drest):=by rintro ⟨a,w,h⟩;exact h
 split
 .rename_i hw;simp only [hw,if_true]at u;rcases u with u|⟨_,u⟩
  .refine Oper.wp_mono (K:=Qm P ops Q drest) (λU w' O=>O) ?_;unfold Oper.wp at u ⊢;exact Yj (Q:=toD P ops Q drest) (λc a w G=>G.elim) (λG=>absurd G C) u
  .exact absurd u C
 .rename_i hw;simp only [hw]at u;exact u
theorem Vx(hc:Ret P f us w Φ)(k:∀ v w',Φ v w'->Ext w w'/\WD P n ops Q drest ((d,v)::al) w')(hf:ev al x=some (.func (.func f) first captured):=by rfl)(hx:evs al xs.toList=some vs:=by rfl)(hu:first.toList++vs++captured.toList=us:=by rfl)(hd:Nat.blt d n=true:=by rfl):
  WD P n ops Q ((1,⟨some d,.call { callee:=.value x,args:=xs,argTypes:=ats },ty,pos,aft,none⟩)::drest) al w:=λa u=>by
 subst hu;have o:d<n:=by (have:d+1<=n:=by simpa [Nat.blt] using hd);(omega)
 have J:xs.map a.eval=vs.toArray:=by rw [<-u.evs hx,<-List.map_toArray,Array.toArray_toList]
 have G:(execOp a.eval ⟨some d,.call { callee:=.value x,args:=xs,argTypes:=ats },ty,pos,aft,none⟩).run P w=.ok (.enter f (first.toList++vs++captured.toList).toArray) w:=by
  have e:(first.toList++vs++captured.toList).toArray=first++vs.toArray++captured:=by apply Array.ext';simp
  rw [e];simp [execOp,resolve,J,u.ev hf,Deferred.ofValue,invoke,Jvp hc.ok]
 unfold Qm wk1;have O:Region.wanted (⟨some d,.call { callee:=.value x,args:=xs,argTypes:=ats },ty,pos,aft,none⟩:Oper) (yielded ops a.tmps)=true:=rfl;simp only [O,if_true];exact Jbg G hc λv w' C=>⟨(k v w' C).1,(k v w' C).2 _ (u.put o v)⟩
theorem clv(hc:Ret P f us w Φ)(k:∀ v w',Φ v w'->WL P n ops Q rest ((d,v)::al) w')(hf:ev al x=some (.func (.func f) first captured):=by rfl)(hx:evs al xs.toList=some vs:=by rfl)(hu:first.toList++vs++captured.toList=us:=by rfl)(hd:Nat.blt d n=true:=by rfl):
  WL P n ops Q (⟨some d,.call { callee:=.value x,args:=xs,argTypes:=ats },ty,pos,aft,none⟩::rest) al w:=by
 subst hu;exact Qvw hf hx hd hc k
theorem Jwc(h:Φ (.tuple #[]) w)(hr:fn.results = #[]:=by rfl): QX n (Vz P fn Φ) .ret al w :=
 Jzb (rs:=[]) (vs:=[]) hr trivial rfl h
theorem Uf(h:Φ (.tuple #[]) w)(hr:fn.results = #[]:=by rfl): QX n (Vz P fn Φ) .normal al w:=λa o=>
 Jwc (n:=n) (al:=al) h hr a o
end
end Go.Wk
namespace Go.Wk
open Go.RowKit
variable {listed:Array Bool}{a b:Int}{l:List Oper}{i id j:Nat}{oi oj:Oper}{x y:Operand}{t yt:TypeId}{v:Value}
section
variable {P:Program} {ops:Array Oper} {Q:Exit->Act->World->Prop} {T:Nat->Bool}
def Vk(P:Program)(ops:Array Oper)(Q:Exit->Act->World->Prop)(T:Nat->Bool): Nat->Array Bool->Act->World->Prop
 | 0,listed,a,w=>Region.ready .any ops listed=[]/\Q .normal a w
 | fuel+1,listed,a,w=>
  (Region.ready .any ops listed=[]->Q .normal a w) /\
   ∀ i∈Region.ready .any ops listed,wpOp P ops (QF Q) i (λa' w'=>(T i=false->Ext w w')/\Vk P ops Q T fuel (listed.setIfInBounds i true) a' w') a w
theorem Jcm: ∀ (fuel:Nat) (listed:Array Bool) (a:Act) (w:World),Vk P ops Q T fuel listed a w->wpAny P .any ops Q fuel listed a w
 | 0,_,_,_,h=>h
 | fuel+1,_,_,_,h=>⟨h.1,λi hi=>wpOp_mono (λa' w' h'=>Jcm fuel _ a' w' h'.2) (Jqb (h.2 i hi))⟩
def Uw(ops:Array Oper): Nat->Nat->Nat->Bool
 | 0,_,_=>false
 | f+1,t,r=>match ops[t]? with
  | none=>false
  | some o=>(o.after.any λe=>Region.binds .any e && e.on == r) || o.after.any λe=>Region.binds .any e && Uw ops f e.on r
def Closed(ops:Array Oper)(listed:Array Bool): Prop:=∀ k o,ops[k]?=some o->listed.getD k false=true->∀ e∈o.after,Region.binds .any e=true->listed.getD e.on false=true
theorem Jkf{listed:Array Bool}(hc:Closed ops listed): ∀ (f t r:Nat) (o:Oper),ops[t]?=some o->(∀ e∈o.after,Region.binds .any e=true->listed.getD e.on false=true)->Uw ops f t r=true->listed.getD r false=true
 | 0,_,_,_,_,_,h=>by cases h
 | f+1,t,r,o,ho,hl,h=>by
  simp only [Uw,ho,Bool.or_eq_true,Array.any_eq_true',Bool.and_eq_true,beq_iff_eq]at h;rcases h with ⟨e,he,hb,hr⟩|⟨e,he,hb,hr⟩
  .have:=hl e he hb;rw [hr]at this;exact this
  .have h1:=hl e he hb;cases ho':ops[e.on]? with
   | none=>
    cases f with
    | zero=>cases hr
    | succ f=>simp [Uw,ho']at hr
   | some o'=>exact Jkf hc f e.on r o' ho' (hc e.on o' ho' h1) hr
theorem Jkd(hoj:ops[j]?=some oj)(hj:j∈Region.ready .any ops listed): ∀ e∈oj.after,Region.binds .any e=true->listed.getD e.on false=true:=by
 obtain ⟨_,J,o,u⟩:=mem_ready.1 hj;rw [hoj]at o;injection o with o
 subst o;intro e C G;have:=u e C G;rcases Nat.lt_or_ge e.on listed.size with h'|h'
 .simp [h']at this ⊢;exact this
 .simp [Array.getElem?_eq_none h']at this
theorem Closed.step(hc:Closed ops listed)(hi:i∈Region.ready .any ops listed): Closed ops (listed.setIfInBounds i true):=by
 have keep:∀ k,listed.getD k false=true->(listed.setIfInBounds i true).getD k false=true:=λk u=>by
  by_cases hik:i=k
  .subst hik;have C:i<listed.size:=by
    rcases Nat.lt_or_ge i listed.size with h'|h'
    .exact h'
    .simp [Array.getElem?_eq_none h']at u
   simp [C]
  .simpa [Array.getElem?_setIfInBounds_ne hik] using u
 intro k o G u e J O;by_cases hik:i=k
 .subst hik;exact keep _ (Jkd G hi e J O)
 .have:listed.getD k false=true:=by simpa [Array.getElem?_setIfInBounds_ne hik] using u
  exact keep _ (hc k o G this e J O)
theorem Jvd(S:World->World->Prop)(hS0:∀ w,S w w)(hSt:∀ {a b c},S a b->S b c->S a c)(hi:ops[i]?=some oi)(hsel:∀ (j:Nat) (o:Oper) cs b,ops[j]?=some o->o.op≠.select cs b)(hSx:∀ listed j,Closed ops listed->i∈Region.ready .any ops listed->j∈Region.ready .any ops listed->∀ w w',(T j=false->Ext w w')->S w w'):
  ∀ (fuel:Nat) (listed:Array Bool) (a:Act) (w:World),Closed ops listed ->
   (∀ j oj,ops[j]?=some oj->j≠i->listed.getD j true=false->(∀ e∈oj.after,Region.binds .any e=true->e.on≠i)->oi.apart ops oj=true) ->
   i∈Region.ready .any ops listed->YieldsIf P ops (S w) oi v a ->
   Vk P ops Q T fuel (listed.setIfInBounds i true) (a.put oi.dst v) w->Vk P ops Q T (fuel+1) listed a w:=by
 intro fuel;induction fuel with
 | zero=>
  intro listed a w U _ G hy H;refine ⟨λh=>(by rw [h]at G;cases G),λj hj=>?_⟩;by_cases hji:j=i
  .subst hji;exact hy.wpOp hi (hS0 w) ⟨λ_=>Ext.refl w,H⟩
  .have:=ready_mono hj hji;rw [H.1]at this;cases this
 | succ fuel ih=>
  intro listed a w U u G hy H;refine ⟨λh=>(by rw [h]at G;cases G),λj hj=>?_⟩;by_cases hji:j=i
  .subst hji;exact hy.wpOp hi (hS0 w) ⟨λ_=>Ext.refl w,H⟩
  .obtain ⟨J,oj,O,a3⟩:=mem_ready.1 hj;have Z:=H.2 j (ready_mono hj hji);have a2:∀ e∈oj.after,Region.binds .any e=true->e.on≠i:=λe he hb a7=>by
    have Z:=a3 e he hb;have h0:=(mem_ready.1 G).1;rw [a7]at Z;rcases Nat.lt_or_ge i listed.size with h'|h'
    .simp [h']at h0 Z;rw [h0]at Z;cases Z
    .simp [Array.getElem?_eq_none h']at Z
   have h2:=wpOp_putIf O (u j oj O hji J a2) (λcs b=>hsel i oi cs b hi) (λcs b=>hsel j oj cs b O) (λc a w h=>h) hy Z;have C:∀ k ok,ops[k]?=some ok->k≠i->(listed.setIfInBounds j true).getD k true=false ->
     (∀ e∈ok.after,Region.binds .any e=true->e.on≠i)->oi.apart ops ok=true:=λk ok hk a6 a1 a5=>by
    refine u k ok hk a6 ?_ a5;by_cases hjk:j=k
    .subst hjk;exact J
    .rw [getD_set_ne true hjk]at a1;exact a1
   refine wpOp_mono (λa' w' h3=>⟨h3.2.1,ih (listed.setIfInBounds j true) a' w' (U.step hj) C (ready_mono G (Ne.symm hji)) ?_ ?_⟩) h2
   .exact h3.1.imp (λ⟨h4,h5⟩=>⟨h4,λa4 hx=>h5 a4 (hSt (hSx listed j U G hj w w' h3.2.1) hx)⟩) id
   .rw [Array.setIfInBounds_comm _ _ hji];exact h3.2.2
theorem Jml(hsel:Region.noSelect ops=true)(F:Nat): ∀ (s:List (Nat×Nat)) (listed:Array Bool) (a:Act) (w:World),Closed ops listed->(∀ p∈s,Nat.ble p.1 2=true)->(∀ p∈s,p.2<ops.size)->(∀ p∈s,(p.1 == 2)=T p.2) ->
  (∀ t,T t=true->t<ops.size->∀ p∈s,p.1=0->Uw ops F t p.2=true)->Qs ops s listed=true->Qm P ops Q (Jo ops.toList s) a w->Vk P ops Q T s.length listed a w
 | [],listed,a,w,_,_,_,_,_,hB,h=>⟨by simpa [Qs] using hB,h⟩
 | (k,i)::r,listed,a,w,hcl,hk,hlt,hKT,hR,hB,h=>by
  have hi:i<ops.size:=hlt _ (mC ..);have ho:ops[i]?=some ops[i]:=Array.getElem?_eq_getElem hi;have hn:nth ops.toList i=some ops[i]:=by rw [Xz];simp [hi]
  have hTi:=hKT _ (mC ..);have hk0:=hk _ (mC ..);simp only at hTi hk0;have hrec:Closed ops (listed.setIfInBounds i true)->Qs ops r (listed.setIfInBounds i true)=true->∀ a w,Qm P ops Q (Jo ops.toList r) a w->Vk P ops Q T r.length (listed.setIfInBounds i true) a w:=λhc' hB' a w h'=>
   Jml hsel F r _ a w hc' (λp hp=>hk p (List.mem_cons_of_mem _ hp)) (λp hp=>hlt p (List.mem_cons_of_mem _ hp)) (λp hp=>hKT p (List.mem_cons_of_mem _ hp)) (λt ht htl p hp=>hR t ht htl p (List.mem_cons_of_mem _ hp)) hB' h'
  have one:Qs ops r (listed.setIfInBounds i true)=true->Region.ready .any ops listed=[i]->(T i=false->if Region.wanted ops[i] (yielded ops a.tmps) then ops[i].wp P a w (λa' w'=>Ext w w'/\Qm P ops Q (Jo ops.toList r) a' w') (QF Q) else Qm P ops Q (Jo ops.toList r) (a.put ops[i].dst undef) w) ->
    (T i=true->if Region.wanted ops[i] (yielded ops a.tmps) then ops[i].wp P a w (Qm P ops Q (Jo ops.toList r)) (QF Q) else Qm P ops Q (Jo ops.toList r) (a.put ops[i].dst undef) w)->Vk P ops Q T (r.length+1) listed a w:=λhB' hr hf ht=>by
   have hcl':Closed ops (listed.setIfInBounds i true):=hcl.step (by rw [hr];exact List.mem_singleton.2 rfl);refine ⟨λh0=>(by rw [hr]at h0;cases h0),λj hj=>?_⟩;rw [hr]at hj;obtain rfl:j=i:=by simpa using hj
   unfold wpOp;simp only [ho];cases hT:T j with
   | false=>
    have h:=hf hT;split
    .rename_i hw;simp only [hw,if_true]at h;exact .inl (Oper.wp_mono (λa' w' h'=>⟨λ_=>h'.1,hrec hcl' hB' _ _ h'.2⟩) h)
    .rename_i hw;simp only [hw]at h;exact ⟨λ_=>Ext.refl w,hrec hcl' hB' _ _ h⟩
   | true=>
    have h:=ht hT;split
    .rename_i hw;simp only [hw,if_true]at h;exact .inl (Oper.wp_mono (λa' w' h'=>⟨λh0=>(by cases h0),hrec hcl' hB' _ _ h'⟩) h)
    .rename_i hw;simp only [hw]at h;exact ⟨λ_=>Ext.refl w,hrec hcl' hB' _ _ h⟩
  match k,hTi,hk0,hR,hB,h with
  | 0,hTi,_,hR,hB,h=>
   simp only [Qs,Bool.and_eq_true]at hB;obtain ⟨⟨hr,hf⟩,hB'⟩:=hB;have hr':i∈Region.ready .any ops listed:=by simpa using hr
   simp only [Jo,hn,Qm,wk1]at h;obtain ⟨v,hy,h⟩:=h;refine Jvd Ext Ext.refl Ext.trans ho (Region.noSelect_spec hsel) ?_ r.length listed a w hcl (Region.free_spec ho hf) hr' hy (hrec (hcl.step hr') hB' _ _ h);intro listed' j hcl' hri hrj w w' hx;cases hT:T j with
   | false=>exact hx hT
   | true=>
    obtain ⟨_,oj,hoj,_⟩:=mem_ready.1 hrj;have h1:=Jkf hcl' F j i oj hoj (Jkd hoj hrj) (hR j hT (Array.getElem?_eq_some_iff.1 hoj).1 _ (mC ..) rfl);have h0:=(mem_ready.1 hri).1;rcases Nat.lt_or_ge i listed'.size with h'|h'
    .simp [h']at h0 h1;rw [h0]at h1;cases h1
    .simp [Array.getElem?_eq_none h']at h1
  | 1,hTi,_,hR,hB,h=>
   simp only [Qs,Bool.and_eq_true,beq_iff_eq]at hB;simp only [Jo,hn,Qm,wk1]at h;refine one hB.2 hB.1 (λ_=>h) (λht=>?_);rw [<-hTi]at ht;cases ht
  | 2,hTi,_,hR,hB,h=>
   simp only [Qs,Bool.and_eq_true,beq_iff_eq]at hB;simp only [Jo,hn,Qm,wk1]at h;refine one hB.2 hB.1 (λht=>?_) (λ_=>h);rw [<-hTi]at ht;cases ht
  | k+3,_,hk0,_,_,_=>simp at hk0
def Jwx(P:Program)(ops:Array Oper)(K:Act->World->Prop): List Oper->Act->World->Prop
 | [],a,w=>K a w
 | o::r,a,w=>∃ v,YieldsIf P ops (λ_=>True) o v a/\Jwx P ops K r (a.put o.dst v) w
def Jbn(ops:Array Oper)(s:List (Nat×Nat)): List Nat->Array Bool->Bool
 | [],listed=>Qs ops s listed
 | i::r,listed=>Nat.blt i ops.size && (Region.ready .any ops listed).contains i && Region.free .any ops listed i && Jbn ops s r (listed.setIfInBounds i true)
def Jxb(l:List Oper): List Nat->List Oper
 | []=>[]
 | i::r=>match nth l i with
  | some o=>o::Jxb l r
  | none=>Jxb l r
theorem Jmm(hsel:Region.noSelect ops=true)(F:Nat){s:List (Nat×Nat)}(hk:∀ p∈s,Nat.ble p.1 2=true)(hlt:∀ p∈s,p.2<ops.size)(hKT:∀ p∈s,(p.1 == 2)=T p.2)(hR:∀ t,T t=true->t<ops.size->∀ p∈s,p.1=0->Uw ops F t p.2=true): ∀ (s0:List Nat) (listed:Array Bool) (a:Act) (w:World),Closed ops listed->Jbn ops s s0 listed=true ->
  Jwx P ops (Qm P ops Q (Jo ops.toList s)) (Jxb ops.toList s0) a w->Vk P ops Q T (s0.length+s.length) listed a w
 | [],listed,a,w,hcl,hB,h=>by
  simp only [List.length_nil,Nat.zero_add];exact Jml hsel F s listed a w hcl hk hlt hKT hR hB h
 | i::r,listed,a,w,hcl,hB,h=>by
  simp only [Jbn,Bool.and_eq_true]at hB;obtain ⟨⟨⟨hi0,hr⟩,hf⟩,hB'⟩:=hB;have hi:i<ops.size:=by (have:i+1<=ops.size:=by simpa [Nat.blt] using hi0);(omega)
  have ho:ops[i]?=some ops[i]:=Array.getElem?_eq_getElem hi;have hn:nth ops.toList i=some ops[i]:=by rw [Xz];simp [hi]
  have hr':i∈Region.ready .any ops listed:=by simpa using hr
  simp only [Jxb,hn,Jwx]at h;obtain ⟨v,hy,h⟩:=h;have e:(i::r).length+s.length=(r.length+s.length)+1:=by simp;omega
  rw [e];exact Jvd (λ_ _=>True) (λ_=>trivial) (λ_ _=>trivial) ho (Region.noSelect_spec hsel) (λ_ _ _ _ _ _ _ _=>trivial) _ listed a w hcl (Region.free_spec ho hf) hr' hy
   (Jmm hsel F hk hlt hKT hR r _ _ _ (hcl.step hr') hB' h)
def Jdl(ops:Array Oper)(F:Nat)(s0:List Nat)(s:List (Nat×Nat)): Bool :=
 Region.noSelect ops && (s0.length+s.length == ops.size) && (s.all λp=>Nat.ble p.1 2) && (s.all λp=>Nat.blt p.2 ops.size) && (s.all λp=>(p.1 == 2) == Ua s p.2) &&
 ((List.range ops.size).all λt=>!Ua s t || s.all λp=>p.1 != 0 || Uw ops F t p.2) && Jbn ops s s0 (Array.replicate ops.size false)
end
section
variable {P:Program} {n:Nat} {al al':AL} {w:World} {Q:Exit->Act->World->Prop} {ops:Array Oper} {s:List (Nat×Oper)} {rest:List Oper}
def WP(P:Program)(n:Nat)(ops:Array Oper)(Q:Exit->Act->World->Prop)(s:List (Nat×Oper))(l:List Oper)(al:AL)(w:World): Prop:=∀ a,Fr n al a->Jwx P ops (Qm P ops Q s) l a w
theorem Qvs(F:Nat)(s0:List Nat)(s:List (Nat×Nat))(hm:P.follows .mixedOrders=true)(hB:Jdl l.toArray F s0 s=true)(h:WP P n l.toArray Q (Jo l s) (Jxb l s0) al w.drew): WC P n (.region id l.toArray true) Q al w:=by
 intro a U;simp only [Jdl,Bool.and_eq_true,beq_iff_eq,List.all_eq_true,List.mem_range,Bool.or_eq_true,Bool.not_eq_true',bne_iff_ne]at hB;obtain ⟨⟨⟨⟨⟨⟨h1,O⟩,h3⟩,h4⟩,h5⟩,h6⟩,Z⟩:=hB;refine wp_region_any hm ?_;rw [<-O];refine Jcm (T:=Ua s) _ _ _ _ (Jmm h1 F (λp u=>h3 p u) (λp u=>?_) (λp u=>?_) (λt ht G p u h0=>?_) s0 _ a _ ?_ (by rw [O];exact Z) ?_)
 .have:=h4 p u;have C:p.2+1<=l.toArray.size:=by simpa [Nat.blt] using this
  omega
 .simpa using h5 p u
 .rcases h6 t G with C|C
  .rw [ht]at C;cases C
  .rcases C p u with h''|h''
   .exact absurd h0 h''
   .exact h''
 .intro k o ho J e he hb;exfalso
  simp only [Array.getD_eq_getD_getElem?,Array.getElem?_replicate]at J;split at J<;>cases J
 .have:=h a U;simpa using this
variable {d ty:Nat} {op:Op} {pos:String} {aft:Array Edge} {tt:TT}
theorem pnil(h:WD P n ops Q s al w): WP P n ops Q s [] al w:=λa o=>h a o
theorem py(hy:∀ w' a,Fr n al a->(execOp a.eval ⟨some d,op,ty,pos,aft,none⟩).run P w'=.ok (.value v) w')(hd:Nat.blt d n=true)(k:WP P n ops Q s rest ((d,v)::al) w): WP P n ops Q s (⟨some d,op,ty,pos,aft,none⟩::rest) al w:=λa u=>by
 have o:d<n:=by (have:d+1<=n:=by simpa [Nat.blt] using hd);(omega)
 exact ⟨v,.inl ⟨rfl,λw' _=>hy w' a u⟩,k _ (u.put o v)⟩
theorem π4[h:Tab P tt](k:WP P n ops Q s rest ((d,v)::al) w)(hv:pv tt (ev al) op=some v:=by rfl)(hd:Nat.blt d n=true:=by rfl): WP P n ops Q s (⟨some d,op,ty,pos,aft,none⟩::rest) al w :=
 py (λw' a C=>Gh w' h.ok (λx u o=>C.ev o) hv) hd k
theorem π1(k:WP P n ops Q s rest ((d,.int .i64 (a+b))::al) w)(hx:ev al x=some (.int .i64 a):=by rfl)(hy:ev al y=some (.int .i64 b):=by rfl)(hd:Nat.blt d n=true:=by rfl)(hc:-9223372036854775808<=a+b/\a+b<=9223372036854775807:=by omega):
  WP P n ops Q s (⟨some d,.binOp .add t x y yt,ty,pos,aft,none⟩::rest) al w :=
 py (λw' e G=>by
  have J:IntKind.i64.wrap (a+b)=a+b:=Ga hc;have:=Gh (P:=P) (tt:=[]) w' trivial (o:=⟨some d,.binOp .add t x y yt,ty,pos,aft,none⟩) (ρ:=e.eval) (e:=ev al) (λz u C=>G.ev C) (v:=.int .i64 (IntKind.i64.wrap (a+b))) (by simp only [pv,hx,hy,bop,if_true]);rw [J]at this;exact this) hd k
theorem π2(k:WP P n ops Q s rest ((d,.int .i64 (a-b))::al) w)(hx:ev al x=some (.int .i64 a):=by rfl)(hy:ev al y=some (.int .i64 b):=by rfl)(hd:Nat.blt d n=true:=by rfl)(hc:-9223372036854775808<=a-b/\a-b<=9223372036854775807:=by omega):
  WP P n ops Q s (⟨some d,.binOp .sub t x y yt,ty,pos,aft,none⟩::rest) al w :=
 py (λw' e G=>by
  have J:IntKind.i64.wrap (a-b)=a-b:=Ga hc;have:=Gh (P:=P) (tt:=[]) w' trivial (o:=⟨some d,.binOp .sub t x y yt,ty,pos,aft,none⟩) (ρ:=e.eval) (e:=ev al) (λz u C=>G.ev C) (v:=.int .i64 (IntKind.i64.wrap (a-b))) (by simp only [pv,hx,hy,bop,if_true]);rw [J]at this;exact this) hd k
theorem π5(h:WD P n ops Q s al w): WP P n ops Q s [] al w:=pnil h
theorem drC[h:Tab P tt](F:Nat)(s0:List Nat)(s:List (Nat×Nat))(hB:Jdl l.toArray F s0 s=true)(k:WP P n l.toArray Q (Jo l s) (Jxb l s0) al w.drew): WC P n (.region id l.toArray true) Q al w:=Qvs F s0 s h.mixed hB k
end
end Go.Wk
namespace Go.Wk
open Go.RowKit
section
variable {P:Program} {n:Nat} {al al':AL} {w:World} {Q:Exit->Act->World->Prop} {ops:Array Oper} {drest:List (Nat×Oper)} {rest:List Oper} {s:List (Nat×Oper)}
variable {d ty:Nat} {op:Op} {pos:String} {aft:Array Edge} {tt:TT}
end
end Go.Wk
namespace Go.Wk
variable {a b:AL}{p q:Prop}
structure Hold(p:Prop): Prop where
 of:p
theorem ρ(h:p)(t:Hold p->q:=by intro h;(repeat first|refine ω1 ?_|refine ω2 ?_|refine ω3 ?_|refine ω4 ?_|refine ω5 ?_|refine χ1 ?_|refine κ1 ?_|refine κ2 ?_|refine χ2 ?_|refine κ3 ?_|refine ω6 ?_|refine ω7 ?_|refine ω9 ?_|refine κ4 ?_|refine κ7 ?_|refine κ8 ?_|refine χ3 ?_|refine χ4 ?_|refine κ5 ?_|refine κ6 ?_|refine χ5 ?_|refine χ6 ?_|refine χ7 ?_|refine ω8 ?_);exact h.of): q:=t ⟨h⟩
theorem ρd(h:p)(t:Hold p->q:=by intro h;(repeat first|refine δ1 ?_|refine δ2 ?_|refine δ4 ?_|refine δ5 ?_|refine δ6 ?_|refine δ7 ?_|refine δ9 ?_|refine δ8 ?_|refine χ1 ?_|refine χ2 ?_|refine χ3 ?_|refine χ4 ?_|refine χ5 ?_|refine χ6 ?_|refine χ7 ?_);exact h.of): q:=t ⟨h⟩
theorem ρp(h:p)(t:Hold p->q:=by intro h;(repeat first|refine π1 ?_|refine π2 ?_|refine π4 ?_|refine π5 ?_);exact h.of): q:=t ⟨h⟩
theorem sB(h:Sub a b:=by repeat' (first|exact Sub.nil|refine Sub.cons rfl ?_)): Sub a b:=h
theorem sO(h:Sub a b:=by repeat' (first|exact Sub.nil|refine Sub.cons (by first|rfl|(refine congrArg (λz=>some (Value.int .i64 z)) ?_;omega)) ?_)): Sub a b:=h
end Go.Wk
